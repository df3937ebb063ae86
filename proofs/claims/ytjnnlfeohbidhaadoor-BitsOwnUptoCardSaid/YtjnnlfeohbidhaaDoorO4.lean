import Derived.Test.YtjnnlfeohbidhaaDoorO3
namespace Go.Proofs.YtjnnlfeohbidhaaDoor
open Go Go.Proofs Go.RowKit
set_option maxRecDepth 4000

theorem rdNil (w : World) : Rd byteE w (.slice none 0 0) [] := ⟨none, 0, rfl, Nat.le_refl _, by decide, .inl rfl⟩
set_option maxHeartbeats 16000000 in
theorem readers_spec {w1 : World} {E : Addr} {g : Nat} (hI : Glo (gl E) g w1) (kb : Nat) (ents : List (SlV × Nat)) (items : List (ItM × List Int)) {v2 : Value} (h2 : Rd itE w1 v2 (items.map (·.1))) (hit : ∀ q ∈ items, ItR w1 q.1 q.2) (htot : (items.map (fun q => q.2.length + 1)).sum ≤ 1048576) (hW : BkW ents) (hn : ents.length ≤ 549755813888) :
    SpecB Tryd.prog w1 21 [.pointer (some ⟨kb, 0, none⟩), v2] [BkO kb ents] (fun u M => u = .bool true ∧ ∃ ents', ents'.length ≤ ents.length + 6 * items.length ∧ BkW ents' ∧ M = [BkO kb ents']) := by
  have hnl := sum_len items
  have hml : (items.map (·.1)).length = items.length := List.length_map ..
  obtain ⟨a2, c2, rfl, l2, m2, k2⟩ := h2
  unfold maxLen at m2
  have hds : ∀ j (hj : j < items.length), dsOf items j = items[j].2 := fun j hj => by unfold dsOf; rw [List.getElem?_eq_getElem hj]; rfl
  have hdl : ∀ j, (dsOf items j).length ≤ 1048576 := fun j => by
    by_cases hj : j < items.length
    · rw [hds j hj]
      have := sum_mem items _ (List.getElem_mem hj)
      omega
    · unfold dsOf
      rw [List.getElem?_eq_none (by omega)]
      exact Nat.zero_le _
  have hby : ∀ j, Byts (dsOf items j) := fun j => by
    by_cases hj : j < items.length
    · rw [hds j hj]
      exact (hit _ (List.getElem_mem hj)).byts
    · unfold dsOf
      rw [List.getElem?_eq_none (by omega)]
      intro x hx; cases hx
  refine specB_of Tryd.func21 rfl rfl (Nat.le_of_ble_eq_true rfl) (fun w F hB hF => ?_)
  (refine hc_seq ?_; refine hc_lex ?_; refine hx_plain rfl ?_; refine h_assign rfl rfl rfl rfl ?_; refine hx_nil ?_; refine hq_then ?_; refine hc_seq ?_; refine hc_lex ?_; refine hx_plain rfl ?_; refine h_assign rfl rfl rfl rfl ?_; refine hx_nil ?_; refine hq_then ?_; refine hc_seq ?_; refine hc_lex ?_; refine hx_plain rfl ?_; refine h_assign rfl rfl rfl rfl ?_; refine hx_plain rfl ?_; refine h_assign rfl rfl rfl rfl ?_; refine hx_nil ?_; refine hq_then ?_; refine hc_seq ?_; refine hc_seq ?_; refine hc_lex ?_; refine hx_plain rfl ?_; refine h_assign rfl rfl rfl rfl ?_; refine hx_nil ?_; refine hq_then ?_; refine hc_block ?_)
  refine hc_cut (id := 0) (Y := List Nat × Value × List SlV × Value × List SlV × Value) (fun y => [(0, .pointer (some ⟨kb, 0, none⟩)), (1, .slice a2 (items.map (·.1)).length c2), (5, y.2.1), (6, y.2.2.2.1), (7, y.2.2.2.2.2)]) (fun y => [BkO kb ents, RowV ptrE 46 y.2.1 y.1, RowV slE 22 y.2.2.2.1 y.2.2.1, RowV slE 22 y.2.2.2.2.2 y.2.2.2.2.1, RdS items y.1 (fun _ => 0) (fun _ => 0), HoldR items y.2.2.1, HoldR items y.2.2.2.2.1]) (fun y => y.1.length = 2 * items.length ∧ y.2.2.1.length = items.length ∧ y.2.2.2.2.1.length = items.length) ?_ ?_
  · refine hc_loop (X := Nat × List Nat × Value × List SlV × Value × List SlV × Value) (fun x => [(0, .pointer (some ⟨kb, 0, none⟩)), (1, .slice a2 (items.map (·.1)).length c2), (5, x.2.2.1), (6, x.2.2.2.2.1), (7, x.2.2.2.2.2.2), (8, .int .i64 (x.1 : Int))]) (fun x => [BkO kb ents, RowV ptrE 46 x.2.2.1 x.2.1, RowV slE 22 x.2.2.2.2.1 x.2.2.2.1, RowV slE 22 x.2.2.2.2.2.2 x.2.2.2.2.2.1, RdS items x.2.1 (fun _ => 0) (fun _ => 0), HoldR items x.2.2.2.1, HoldR items x.2.2.2.2.2.1]) (fun x => x.1 ≤ items.length ∧ x.2.1.length = 2 * x.1 ∧ x.2.2.2.1.length = x.1 ∧ x.2.2.2.2.2.1.length = x.1) (fun x => items.length - x.1) (0, [], .slice none 0 0, [], .slice none 0 0, [], .slice none 0 0) (.cons rfl (.cons rfl (.cons rfl (.cons rfl (.cons rfl (.cons rfl .nil)))))) ⟨Nat.zero_le _, rfl, rfl, rfl⟩ (fun _ h => by
      have h1 := HoldR_nil (items := items) (HoldR_nil (items := items) (RdS_nil (items := items) (at_ := fun _ => 0) (er := fun _ => 0) (St.rowV_nil (E := slE) (T := 22) (St.rowV_nil (E := slE) (T := 22) (St.rowV_nil (E := ptrE) (T := 46) h)))))
      exact h1.sub (.cons (.tail (.tail (.tail (.tail (.tail (.tail .head)))))) (.cons (.tail (.tail (.tail (.tail (.tail .head))))) (.cons (.tail (.tail (.tail .head))) (.cons (.tail (.tail (.tail .head))) (.cons (.tail (.tail .head)) (.cons .head (.cons .head .nil)))))))) ?_
    rintro ⟨i, ps, vr, gs, vg, ws, vw⟩ ⟨hi, hps, hgs, hws⟩
    dsimp only at hi hps hgs hws ⊢
    by_cases hlt : i < items.length
    case neg =>
      obtain rfl : i = items.length := by omega
      (refine hc_seq ?_; refine hc_seq ?_; refine hc_lex ?_; refine hx_plain rfl ?_; refine h_move rfl rfl rfl rfl ?_; refine hx_plain rfl ?_; refine h_move rfl rfl rfl rfl ?_; refine hx_plain rfl ?_; refine h_len_slice rfl rfl rfl UC.out rfl rfl rfl ?_; refine hx_plain rfl ?_; refine h_cmp rfl rfl rfl rfl rfl rfl ?_; refine hx_nil ?_; refine hq_then ?_; refine hc_condDF rfl (by omega) ?_; refine hc_exit ?_; refine hq_exit_then ?_; refine hq_exit_then ?_)
      exact hq_cut (ps, vr, gs, vg, ws, vw) ⟨hps, hgs, hws⟩ (.cons rfl (.cons rfl (.cons rfl (.cons rfl (.cons rfl .nil))))) (fun _ h => h)
    obtain ⟨g1, o1, rfl, r1⟩ := k2.resolve_left (fun e => by have := congrArg List.length e; rw [hml, List.length_nil] at this; omega)
    obtain ⟨⟨t, ds⟩, hq⟩ : ∃ q, items[i] = q := ⟨_, rfl⟩
    have hr := hit _ (List.getElem_mem hlt)
    have hdi := hds i hlt
    rw [hq] at hr hdi
    dsimp only at hr hdi
    have hdsl : ds.length ≤ 1048576 := by rw [← hdi]; exact hdl i
    have hcell : ∀ x L, St w F L x → x.cell? ⟨g1, o1 + ((i : Nat) : Int).toNat * 4 + 3, none⟩ = some t.sl.v := fun x L h => by
      have hc := r1 i t (by rw [List.getElem?_map, List.getElem?_eq_getElem hlt, hq]; rfl) 3 t.sl.v rfl
      exact (h.butB hB hF).cell (fun h => h) hc
    have hrd : ∀ x L, St w F L x → Rd byteE x t.sl.v ds := fun x L h => hr.rd.but (h.butB hB hF)
    have hbl := bsB_len i ds
    have hpl := padN_lt ds.length
    (refine hc_seq ?_; refine hc_seq ?_; refine hc_lex ?_; refine hx_plain rfl ?_; refine h_move rfl rfl rfl rfl ?_; refine hx_plain rfl ?_; refine h_move rfl rfl rfl rfl ?_; refine hx_plain rfl ?_; refine h_len_slice rfl rfl rfl UC.out rfl rfl rfl ?_; refine hx_plain rfl ?_; refine h_cmp rfl rfl rfl rfl rfl rfl ?_; refine hx_nil ?_; refine hq_then ?_; refine hc_condDT rfl (by omega) ?_; refine hc_skip ?_; refine hq_then ?_; refine hc_seq ?_; refine hc_block ?_; refine hc_seq ?_)
    refine hc_drawE (D := fun x => St w F [] x) (fun q => q == 1 || q == 7) [0, 2, 3, 4, 5, 6] [1, 7, 8] (by kernel_rfl) (by kernel_rfl) rfl (fun x h => h.emp) rfl ?_
    (refine hx_plain rfl ?_; refine h_move rfl rfl rfl rfl ?_; refine hx_plain rfl ?_; refine h_move rfl rfl rfl rfl ?_; refine hx_plain rfl ?_; refine h_move rfl rfl rfl rfl ?_; refine hx_plain rfl ?_; refine h_indexAddr rfl rfl rfl UC.out IC.size (by omega) (by omega) rfl rfl ?_; refine hx_plain rfl ?_; refine h_fieldAddr rfl rfl FC.out rfl rfl ?_; refine hx_plain rfl ?_)
    refine h_cellLoad rfl rfl (fun x h => hcell x _ h) UC.out rfl rfl rfl ?_
    (refine hx_nil ?_)
    refine hd_callW (post := fun u M => M = [RowV byteE 5 u ([] ++ dg (IntKind.u64.wrap (i : Int)) 4)]) rfl rfl rfl rfl rfl rfl rfl rfl EC.out (fun w' h => put32_makes (i : Int) (rdNil w') (by decide)) (fun v M hM x h => h.emp) ?_
    rintro v4 M rfl
    refine hd_callW (post := fun u M => ∃ a c, u = .slice a (bsB i ds).length c ∧ M = [RowV byteE 5 u (bsB i ds)]) rfl rfl rfl rfl rfl rfl rfl rfl EC.out (fun w' h => (putBytes_makes (h.rdRowV .head) (hrd w' _ h) (by rw [List.nil_append, dg_len]; omega) (by omega)).shape) (fun v M hM x h => h.emp) ?_
    rintro vb M ⟨ab, cb, rfl, rfl⟩
    refine hd_end _ rfl ?_
    (refine hx_plain rfl ?_; refine h_assign rfl rfl rfl rfl ?_; refine hx_nil ?_)
    refine hd_nil ?_
    (refine hq_then ?_; refine hc_seq ?_; refine hc_lex ?_; refine hx_plain rfl ?_; refine h_move rfl rfl rfl rfl ?_; refine hx_plain rfl ?_)
    refine h_callW (post := fun u M => M = [RowV byteE 5 u (bsB i ds ++ [161, 162, 163])]) rfl rfl rfl rfl rfl rfl rfl rfl EC.out (fun w' h => room_makes (h.rdRowV .head) (by omega)) ?_
    rintro vgi M rfl
    (refine hx_plain rfl ?_; refine h_assign rfl rfl rfl rfl ?_; refine hx_nil ?_; refine hq_then ?_)
    refine hc_rowV .head (fun _ e => by simp at e) ?_
    rintro gg cg rfl
    refine hc_know (fun _ h => h.row_cap .head) (fun hcg => ?_)
    have hlg : (bsB i ds ++ [161, 162, 163]).length = (bsB i ds).length + 3 := by rw [List.length_append]; rfl
    have tkb : (bsB i ds ++ [161, 162, 163]).take (bsB i ds).length = bsB i ds := by simp
    have e3 : (bsB i ds ++ [161, 162, 163])[3]? = some (b3 i) := by rw [List.getElem?_append_left (by omega)]; exact bsB_get (by omega) ds
    have est : (bsB i ds ++ [161, 162, 163]).set 3 (bits .xor .u8 (b3 i) 1) = bsT i ds ++ [161, 162, 163] := by unfold bsT; rw [List.set_append_left _ _ (by omega)]
    have htl := bsT_len i ds
    have tkt : (bsT i ds ++ [161, 162, 163]).take (bsB i ds).length = bsT i ds := by rw [show (bsB i ds).length = (bsT i ds).length by omega]; simp
    have e3t : (bsT i ds ++ [161, 162, 163])[3]? = some (bits .xor .u8 (b3 i) 1) := by rw [List.getElem?_append_left (by omega)]; unfold bsT; rw [List.getElem?_set_self (by omega)]
    have est2 : (bsT i ds ++ [161, 162, 163]).set 3 (bits .xor .u8 (bits .xor .u8 (b3 i) 1) 1) = bsB i ds ++ [161, 162, 163] := by
      rw [b3_back, List.set_append_left _ _ (by omega)]
      congr 1
      unfold bsT
      rw [List.set_set]
      apply List.ext_getElem?
      intro j
      by_cases hj : 3 = j
      · subst hj
        rw [List.getElem?_set_self (by omega), bsB_get (by omega) ds]
      · rw [List.getElem?_set_ne hj]
    have rdB : ∀ w' L F0 w0 L', St w0 F0 L w' → Pull L (Row byteE 5 gg cg (bsB i ds ++ [161, 162, 163])) L' → Rd byteE w' (.slice (some ⟨gg, 0, none⟩) (bsB i ds).length cg) (bsB i ds) := fun w' L F0 w0 L' h hp => by
      have := (h.rdRow hp).pre (n := (bsB i ds).length) (by omega)
      rwa [tkb] at this
    have rdT : ∀ w' L F0 w0 L', St w0 F0 L w' → Pull L (Row byteE 5 gg cg (bsT i ds ++ [161, 162, 163])) L' → Rd byteE w' (.slice (some ⟨gg, 0, none⟩) (bsB i ds).length cg) (bsT i ds) := fun w' L F0 w0 L' h hp => by
      have := (h.rdRow hp).pre (n := (bsB i ds).length) (by rw [List.length_append]; omega)
      have e9 : (bsT i ds ++ [161, 162, 163]).length = (bsB i ds ++ [161, 162, 163]).length := by rw [List.length_append, List.length_append]; omega
      rwa [tkt] at this
    (refine hc_seq ?_; refine hc_lex ?_; refine hx_plain rfl ?_; refine h_move rfl rfl rfl rfl ?_; refine hx_plain rfl ?_; refine h_move rfl rfl rfl rfl ?_; refine hx_plain rfl ?_; refine h_len_slice rfl rfl rfl UC.out rfl rfl rfl ?_; refine hx_plain rfl ?_; refine h_sliceTo rfl rfl rfl UC.out IC.size (by omega) rfl rfl ?_; refine hx_plain rfl ?_)
    refine h_callW (post := fun u M => ∃ p, u = .pointer (some ⟨p, 0, none⟩) ∧ M = [RdrO p (bsB i ds) 0 0 0]) rfl rfl rfl rfl rfl rfl rfl rfl EC.out (fun w' h => newReader_makes (rdB _ _ _ _ _ h .head) (by omega)) ?_
    rintro u M ⟨p1, rfl, rfl⟩
    (refine hx_plain rfl ?_; refine h_assign rfl rfl rfl rfl ?_; refine hx_nil ?_; refine hq_then ?_; refine hc_seq ?_; refine hc_lex ?_; refine hx_plain rfl ?_; refine h_move rfl rfl rfl rfl ?_; refine hx_plain rfl ?_; refine h_move rfl rfl rfl rfl ?_; refine hx_plain rfl ?_; refine h_rowAddr rfl rfl rfl UC.out IC.size (by omega) (by omega) rfl rfl ?_; refine hx_plain rfl ?_)
    refine h_rowLoad1 (i := 3) (y := b3 i) rfl (.tail .head) rfl UC.out rfl e3 rfl rfl rfl ?_
    (refine hx_plain rfl ?_; refine h_bits rfl rfl rfl rfl rfl rfl ?_; refine hx_plain rfl ?_; refine h_rowAddr rfl rfl rfl UC.out IC.size (by omega) (by omega) rfl rfl ?_; refine hx_plain rfl ?_)
    refine h_rowStoreN (i := 3) (z := bits .xor .u8 (b3 i) 1) rfl rfl rfl (.tail .head) rfl rfl rfl IC.size e3 rfl rfl ?_
    rw [est]
    (refine hx_nil ?_; refine hq_then ?_; refine hc_seq ?_; refine hc_lex ?_; refine hx_plain rfl ?_; refine h_move rfl rfl rfl rfl ?_; refine hx_plain rfl ?_; refine h_move rfl rfl rfl rfl ?_; refine hx_plain rfl ?_; refine h_len_slice rfl rfl rfl UC.out rfl rfl rfl ?_; refine hx_plain rfl ?_; refine h_sliceTo rfl rfl rfl UC.out IC.size (by omega) rfl rfl ?_; refine hx_plain rfl ?_)
    refine h_callW (post := fun u M => ∃ p, u = .pointer (some ⟨p, 0, none⟩) ∧ M = [RdrO p (bsT i ds) 0 0 0]) rfl rfl rfl rfl rfl rfl rfl rfl EC.out (fun w' h => newReader_makes (rdT _ _ _ _ _ h .head) (by omega)) ?_
    rintro u M ⟨p2, rfl, rfl⟩
    (refine hx_plain rfl ?_; refine h_assign rfl rfl rfl rfl ?_; refine hx_nil ?_; refine hq_then ?_; refine hc_seq ?_; refine hc_lex ?_; refine hx_plain rfl ?_; refine h_move rfl rfl rfl rfl ?_; refine hx_plain rfl ?_; refine h_move rfl rfl rfl rfl ?_; refine hx_plain rfl ?_; refine h_rowAddr rfl rfl rfl UC.out IC.size (by omega) (by omega) rfl rfl ?_; refine hx_plain rfl ?_)
    refine h_rowLoad1 (i := 3) (y := bits .xor .u8 (b3 i) 1) rfl (.tail .head) rfl UC.out rfl e3t rfl rfl rfl ?_
    (refine hx_plain rfl ?_; refine h_bits rfl rfl rfl rfl rfl rfl ?_; refine hx_plain rfl ?_; refine h_rowAddr rfl rfl rfl UC.out IC.size (by omega) (by omega) rfl rfl ?_; refine hx_plain rfl ?_)
    refine h_rowStoreN (i := 3) (z := bits .xor .u8 (bits .xor .u8 (b3 i) 1) 1) rfl rfl rfl (.tail .head) rfl rfl rfl IC.size e3t rfl rfl ?_
    rw [est2]
    (refine hx_nil ?_; refine hq_then ?_; refine hc_seq ?_; refine hc_seq ?_; refine hc_lex ?_; refine hx_plain rfl ?_; refine h_move rfl rfl rfl rfl ?_; refine hx_plain rfl ?_; refine h_eqNil rfl rfl rfl UC.out rfl rfl ?_; refine hx_plain rfl ?_; refine h_move rfl rfl rfl rfl ?_; refine hx_yes rfl rfl rfl ?_; refine h_move rfl rfl rfl rfl ?_; refine hx_yes rfl rfl rfl ?_; refine h_eqNil rfl rfl rfl UC.out rfl rfl ?_; refine hx_plain rfl ?_; refine h_pickF rfl rfl rfl rfl rfl ?_; refine hx_nil ?_; refine hq_then ?_; refine hc_condF rfl ?_; refine hc_skip ?_; refine hq_then ?_; refine hc_seq ?_; refine hc_lex ?_; refine hx_plain rfl ?_; refine h_move rfl rfl rfl rfl ?_; refine hx_plain rfl ?_; refine h_move rfl rfl rfl rfl ?_; refine hx_plain rfl ?_; refine h_move rfl rfl rfl rfl ?_; refine hx_plain rfl ?_; (refine h_buildSlice rfl rfl rfl UC.out IC.size IC.zero rfl rfl (by intro v hv; simp at hv; first | (subst hv; rfl) | (rcases hv with rfl | rfl <;> rfl) | (rcases hv with rfl | rfl | rfl <;> rfl)) (by omega) rfl rfl (fun _ => ?_)); refine hx_plain rfl ?_)
    refine h_append (m := 2) (E := ptrE) (T := 46) (xs := ps) (ys := [p1, p2]) rfl rfl rfl rfl rfl UC.out IC.out rfl (.cons (.tail (.tail (.tail (.tail (.tail (.tail (.tail .head))))))) (.cons .head .nil)) rfl (flat_row ptrE [p1, p2]) (by unfold maxLen; omega) (by omega) rfl rfl (fun vr' _ => ?_)
    (refine hx_plain rfl ?_; refine h_assign rfl rfl rfl rfl ?_; refine hx_nil ?_; refine hq_then ?_; refine hc_seq ?_; refine hc_lex ?_; refine hx_plain rfl ?_; refine h_move rfl rfl rfl rfl ?_; refine hx_plain rfl ?_; refine h_move rfl rfl rfl rfl ?_; refine hx_plain rfl ?_; (refine h_buildSlice rfl rfl rfl UC.out IC.size IC.zero rfl rfl (by intro v hv; simp at hv; first | (subst hv; rfl) | (rcases hv with rfl | rfl <;> rfl) | (rcases hv with rfl | rfl | rfl <;> rfl)) (by omega) rfl rfl (fun _ => ?_)); refine hx_plain rfl ?_)
    refine h_append (m := 1) (E := slE) (T := 22) (xs := gs) (ys := [⟨some ⟨gg, 0, none⟩, (bsB i ds ++ [161, 162, 163]).length, cg⟩]) rfl rfl rfl rfl rfl UC.out IC.out rfl (.cons (.tail (.tail (.tail (.tail (.tail (.tail (.tail (.tail (.tail .head))))))))) (.cons .head .nil)) rfl (one_row slE _) (by unfold maxLen; omega) (by omega) rfl rfl (fun vg' _ => ?_)
    (refine hx_plain rfl ?_; refine h_assign rfl rfl rfl rfl ?_; refine hx_nil ?_; refine hq_then ?_; refine hc_lex ?_; refine hx_plain rfl ?_; refine h_move rfl rfl rfl rfl ?_; refine hx_plain rfl ?_; refine h_move rfl rfl rfl rfl ?_; refine hx_plain rfl ?_)
    refine h_callW (post := fun u M => ∃ a c, u = .slice a (bsB i ds ++ [161, 162, 163] : List Int).length c ∧ M = [RowV byteE 5 u (bsB i ds ++ [161, 162, 163])]) rfl rfl rfl rfl rfl rfl rfl rfl EC.out (fun w' h => (room_makes (h.rdRowV (.tail (.tail (.tail (.tail (.tail (.tail (.tail .head)))))))) (by omega)).shape) ?_
    rintro wi M ⟨aw, cw, rfl, rfl⟩
    (refine hx_plain rfl ?_; (refine h_buildSlice rfl rfl rfl UC.out IC.size IC.zero rfl rfl (by intro v hv; simp at hv; first | (subst hv; rfl) | (rcases hv with rfl | rfl <;> rfl) | (rcases hv with rfl | rfl | rfl <;> rfl)) (by omega) rfl rfl (fun _ => ?_)); refine hx_plain rfl ?_)
    refine h_append (m := 1) (E := slE) (T := 22) (xs := ws) (ys := [⟨aw, (bsB i ds ++ [161, 162, 163]).length, cw⟩]) rfl rfl rfl rfl rfl UC.out IC.out rfl (.cons (.tail (.tail (.tail (.tail (.tail (.tail (.tail (.tail (.tail (.tail (.tail (.tail .head)))))))))))) (.cons .head .nil)) rfl (one_row slE _) (by unfold maxLen; omega) (by omega) rfl rfl (fun vw' _ => ?_)
    (refine hx_plain rfl ?_; refine h_assign rfl rfl rfl rfl ?_; refine hx_nil ?_; refine hq_norm_block ?_; refine hq_then ?_; refine hc_lex ?_; refine hx_plain rfl ?_; refine h_move rfl rfl rfl rfl ?_; refine hx_plain rfl ?_; refine h_arithI rfl rfl rfl rfl (by omega) rfl rfl ?_; refine hx_plain rfl ?_; refine h_assign rfl rfl rfl rfl ?_; refine hx_nil ?_)
    have eF0 : bsF items (2 * i) = bsB i ds := by unfold bsF; rw [if_pos (by omega), show 2 * i / 2 = i by omega, hdi]
    have eF1 : bsF items (2 * i + 1) = bsT i ds := by unfold bsF; rw [if_neg (by omega), show (2 * i + 1) / 2 = i by omega, hdi]
    have eR : roomB items i = bsB i ds ++ [161, 162, 163] := by unfold roomB; rw [hdi]
    refine hq_round (i + 1, ps ++ [p1, p2], vr', gs ++ [⟨some ⟨gg, 0, none⟩, (bsB i ds ++ [161, 162, 163]).length, cg⟩], vg', ws ++ [⟨aw, (bsB i ds ++ [161, 162, 163]).length, cw⟩], vw') (by show items.length - (i + 1) < items.length - i; omega) ⟨by show i + 1 ≤ items.length; omega, by show (ps ++ [p1, p2]).length = 2 * (i + 1); rw [List.length_append, hps]; show 2 * i + 2 = _; omega, by show (gs ++ [_]).length = i + 1; rw [List.length_append, hgs]; rfl, by show (ws ++ [_]).length = i + 1; rw [List.length_append, hws]; rfl⟩ (.cons rfl (.cons rfl (.cons rfl (.cons rfl (.cons rfl (.cons rfl .nil)))))) (fun _ h => ?_)
    have h1 := RdrO.toX (h.sub (M := RdrO p1 (bsB i ds) 0 0 0 :: RdrO p2 (bsT i ds) 0 0 0 :: RdS items ps (fun _ => 0) (fun _ => 0) :: HoldR items gs :: Row byteE 5 gg cg (bsB i ds ++ [161, 162, 163]) :: HoldR items ws :: RowV byteE 5 (.slice aw (bsB i ds ++ [161, 162, 163]).length cw) (bsB i ds ++ [161, 162, 163]) :: _) (.cons (.tail (.tail (.tail (.tail (.tail (.tail (.tail (.tail (.tail .head))))))))) (.cons (.tail (.tail (.tail (.tail (.tail (.tail (.tail (.tail .head)))))))) (.cons (.tail (.tail (.tail (.tail (.tail (.tail (.tail (.tail (.tail (.tail (.tail .head))))))))))) (.cons (.tail (.tail (.tail (.tail (.tail (.tail (.tail (.tail (.tail (.tail (.tail .head))))))))))) (.cons (.tail (.tail (.tail (.tail (.tail (.tail (.tail .head))))))) (.cons (.tail (.tail (.tail (.tail (.tail (.tail (.tail (.tail (.tail (.tail .head)))))))))) (.cons (.tail (.tail .head)) (.cons (.tail (.tail (.tail (.tail (.tail (.tail (.tail (.tail .head)))))))) (.cons (.tail (.tail (.tail (.tail .head)))) (.cons (.tail (.tail .head)) (.cons .head .nil))))))))))))
    have h3 := RdrO.toX (h1.perm (List.Perm.swap _ _ _))
    have h4 := RdS_two' (n := i) (at_ := fun _ => 0) (er := fun _ => 0) eF0.symm eF1.symm hps (h3.sub (.cons (.tail (.tail .head)) (.cons (.tail .head) (.cons .head (.cons (.tail .head) (.cons .head (.cons .head (.cons .head (.cons .head (.cons .head (.cons .head (.cons .head .nil))))))))))))
    have h5 := (h4.sub (M := Row byteE 5 gg cg (bsB i ds ++ [161, 162, 163]) :: _) (.cons (.tail .head) (.cons (.tail .head) (.cons (.tail .head) (.cons (.tail .head) (.cons .head (.cons .head (.cons .head (.cons .head (.cons .head .nil)))))))))).rowV_mk
    have h6 := HoldR_add' (T := 5) (s := ⟨some ⟨gg, 0, none⟩, (bsB i ds ++ [161, 162, 163] : List Int).length, cg⟩) (by rw [hgs, eR]) (h5.sub (.cons (.tail .head) (.cons .head (.cons .head (.cons .head (.cons .head (.cons .head (.cons .head (.cons .head (.cons .head .nil))))))))))
    have h7 := HoldR_add' (T := 5) (s := ⟨aw, (bsB i ds ++ [161, 162, 163] : List Int).length, cw⟩) (by rw [hws, eR]) (h6.sub (.cons (.tail .head) (.cons (.tail .head) (.cons .head (.cons .head (.cons .head (.cons .head (.cons .head (.cons .head .nil)))))))))
    exact h7.sub (.cons (.tail (.tail (.tail .head))) (.cons (.tail (.tail (.tail .head))) (.cons (.tail (.tail (.tail .head))) (.cons (.tail (.tail (.tail .head))) (.cons (.tail (.tail .head)) (.cons (.tail .head) (.cons .head .nil)))))))
  · rintro ⟨ps, vr, gs, vg, ws, vw⟩ ⟨hps, hgs, hws⟩
    dsimp only at hps hgs hws ⊢
    (refine hq_exit_block ?_; refine hq_then ?_; refine hc_seq ?_; refine hc_lex ?_; refine hx_plain rfl ?_; refine h_assign rfl rfl rfl rfl ?_; refine hx_nil ?_; refine hq_then ?_; refine hc_seq ?_; refine hc_seq ?_; refine hc_lex ?_; refine hx_plain rfl ?_; refine h_assign rfl rfl rfl rfl ?_; refine hx_nil ?_; refine hq_then ?_; refine hc_block ?_)
    refine hc_know (fun _ h => And.intro (h.rowV_shape (.tail .head)) (And.intro (h.rowV_shape (.tail (.tail .head))) (h.rowV_shape (.tail (.tail (.tail .head)))))) ?_
    rintro ⟨⟨ar, cr, rfl⟩, ⟨ag, cg, rfl⟩, ⟨aw, cw, rfl⟩⟩
    have hbl : ∀ k, (bsF items k).length ≤ 1048588 := fun k => by
      have := bsF_len items k
      have := padN_lt (dsOf items (k / 2)).length
      have := hdl (k / 2)
      omega
    refine hc_cut (id := 2) (Y := Unit) (fun _ => [(0, .pointer (some ⟨kb, 0, none⟩)), (1, .slice a2 (items.map (·.1)).length c2), (5, .slice ar ps.length cr), (6, .slice ag gs.length cg), (7, .slice aw ws.length cw), (13, .slice none 0 0)]) (fun _ => [BkO kb ents, RowV ptrE 46 (.slice ar ps.length cr) ps, RowV slE 22 (.slice ag gs.length cg) gs, RowV slE 22 (.slice aw ws.length cw) ws, RdS items ps (fun _ => 4) (fun _ => 0), HoldR items gs, HoldR items ws]) (fun _ => True) ?_ ?_
    · refine hc_loop (X := Nat) (fun i => [(0, .pointer (some ⟨kb, 0, none⟩)), (1, .slice a2 (items.map (·.1)).length c2), (5, .slice ar ps.length cr), (6, .slice ag gs.length cg), (7, .slice aw ws.length cw), (13, .slice none 0 0), (14, .int .i64 (i : Int))]) (fun i => [BkO kb ents, RowV ptrE 46 (.slice ar ps.length cr) ps, RowV slE 22 (.slice ag gs.length cg) gs, RowV slE 22 (.slice aw ws.length cw) ws, RdS items ps (fun k => if k < i then 4 else 0) (fun _ => 0), HoldR items gs, HoldR items ws]) (fun i => i ≤ ps.length) (fun i => ps.length - i) 0 (.cons rfl (.cons rfl (.cons rfl (.cons rfl (.cons rfl (.cons rfl (.cons rfl .nil))))))) (Nat.zero_le _) (fun _ h => h) ?_
      intro i hi
      by_cases hlt : i < ps.length
      case neg =>
        obtain rfl : i = ps.length := by omega
        (refine hc_seq ?_; refine hc_seq ?_; refine hc_lex ?_; refine hx_plain rfl ?_; refine h_move rfl rfl rfl rfl ?_; refine hx_plain rfl ?_; refine h_move rfl rfl rfl rfl ?_; refine hx_plain rfl ?_; refine h_len_slice rfl rfl rfl UC.out rfl rfl rfl ?_; refine hx_plain rfl ?_; refine h_cmp rfl rfl rfl rfl rfl rfl ?_; refine hx_nil ?_; refine hq_then ?_; refine hc_condDF rfl (by omega) ?_; refine hc_exit ?_; refine hq_exit_then ?_; refine hq_exit_then ?_)
        exact hq_cut () trivial (.cons rfl (.cons rfl (.cons rfl (.cons rfl (.cons rfl (.cons rfl .nil)))))) (fun _ h => (RdS_congr (fun _ => 4) (fun _ => 0) (fun j hj => if_pos hj) (fun _ _ => rfl) (h.sub (.cons (.tail (.tail (.tail (.tail .head)))) (.cons .head (.cons .head (.cons .head (.cons .head (.cons .head (.cons .head .nil))))))))).sub (.cons (.tail .head) (.cons (.tail .head) (.cons (.tail .head) (.cons (.tail .head) (.cons .head (.cons .head (.cons .head .nil))))))))
      obtain ⟨p, hp⟩ : ∃ p, ps[i]? = some p := ⟨_, List.getElem?_eq_getElem hlt⟩
      have e1 : ps[((i : Nat) : Int).toNat]? = some p := by rw [show ((i : Nat) : Int).toNat = i by omega, hp]
      refine hc_rowV (.tail .head) (fun _ e => by rw [e] at hlt; exact absurd hlt (Nat.not_lt_zero _)) ?_
      intro gr cr' e
      injection e with e4 e5 e6
      subst e4 e6
      refine hc_open (.tail (.tail (.tail (.tail .head)))) (RdS_open hp) ?_
      rintro ⟨⟩
      rw [if_neg (Nat.lt_irrefl i)]
      (refine hc_seq ?_; refine hc_seq ?_; refine hc_lex ?_; refine hx_plain rfl ?_; refine h_move rfl rfl rfl rfl ?_; refine hx_plain rfl ?_; refine h_move rfl rfl rfl rfl ?_; refine hx_plain rfl ?_; refine h_len_slice rfl rfl rfl UC.out rfl rfl rfl ?_; refine hx_plain rfl ?_; refine h_cmp rfl rfl rfl rfl rfl rfl ?_; refine hx_nil ?_; refine hq_then ?_; refine hc_condDT rfl (by omega) ?_; refine hc_skip ?_; refine hq_then ?_; refine hc_seq ?_; refine hc_block ?_; refine hc_seq ?_; refine hc_lex ?_; refine hx_plain rfl ?_; refine h_move rfl rfl rfl rfl ?_; refine hx_plain rfl ?_; refine h_move rfl rfl rfl rfl ?_; refine hx_plain rfl ?_; refine h_rowAddr rfl rfl rfl UC.out IC.size (by omega) (by omega) rfl rfl ?_; refine hx_plain rfl ?_; refine h_rowLoad1 rfl (.tail (.tail .head)) rfl UC.out rfl (by with_reducible assumption) rfl rfl rfl ?_; refine hx_plain rfl ?_)
      refine h_callB hB hF rfl rfl rfl rfl rfl rfl rfl rfl EC.out (.cons .head .nil) ((u32_all p (bsF items i) 0 0 4294967296 E g (by have := hbl i; omega) (Nat.zero_le _)).toB hI) ?_
      rintro u M ⟨rfl, rfl⟩
      rw [bsF_u32 items i (by omega)]
      (refine hx_plain rfl ?_; refine h_move rfl rfl rfl rfl ?_; refine hx_plain rfl ?_; refine h_quoI rfl rfl rfl (by omega) rfl rfl ?_; refine hx_plain rfl ?_; refine h_move rfl rfl rfl rfl ?_; refine hx_plain rfl ?_; refine h_remI rfl rfl rfl (by omega) rfl rfl ?_; refine hx_plain rfl ?_; refine h_bits rfl rfl rfl rfl rfl rfl ?_; refine hx_plain rfl ?_; refine h_cmp rfl rfl rfl rfl rfl rfl ?_; refine hx_nil ?_; refine hq_then ?_; refine hc_condDF rfl (by omega) ?_; refine hc_skip ?_; refine hq_norm_block ?_; refine hq_then ?_; refine hc_lex ?_; refine hx_plain rfl ?_; refine h_move rfl rfl rfl rfl ?_; refine hx_plain rfl ?_; refine h_arithI rfl rfl rfl rfl (by omega) rfl rfl ?_; refine hx_plain rfl ?_; refine h_assign rfl rfl rfl rfl ?_; refine hx_nil ?_)
      refine hq_round (i + 1) (by omega) (by omega) (.cons rfl (.cons rfl (.cons rfl (.cons rfl (.cons rfl (.cons rfl (.cons rfl .nil))))))) (fun _ h => ?_)
      have h1 := RdS_shut' (fun k => if k < i + 1 then 4 else 0) (fun _ => 0) (if_pos (Nat.lt_succ_self i)) rfl hp (fun _ hj => if_step hj _ _) (fun _ _ => rfl) h
      exact (h1.sub (.cons (.tail .head) (.cons .head (.cons .head (.cons .head (.cons .head (.cons .head (.cons .head .nil)))))))).rowV_mk.sub (.cons (.tail (.tail .head)) (.cons .head (.cons (.tail .head) (.cons (.tail .head) (.cons .head (.cons .head (.cons .head .nil)))))))
    rintro ⟨⟩ _
    (refine hq_exit_block ?_; refine hq_then ?_; refine hc_seq ?_; refine hc_seq ?_; refine hc_lex ?_; refine hx_plain rfl ?_; refine h_move rfl rfl rfl rfl ?_; refine hx_plain rfl ?_; refine h_len_slice rfl rfl rfl UC.out rfl rfl rfl ?_; refine hx_plain rfl ?_; refine h_arithI rfl rfl rfl rfl (by omega) rfl rfl ?_; refine hx_plain rfl ?_; refine h_assign rfl rfl rfl rfl ?_; refine hx_nil ?_; refine hq_then ?_; refine hc_block ?_)
    refine hc_cut (id := 4) (Y := List SlV × Value) (fun y => [(0, .pointer (some ⟨kb, 0, none⟩)), (1, .slice a2 (items.map (·.1)).length c2), (5, .slice ar ps.length cr), (6, .slice ag gs.length cg), (7, .slice aw ws.length cw), (13, y.2)]) (fun y => [BkO kb ents, RowV ptrE 46 (.slice ar ps.length cr) ps, RowV slE 22 (.slice ag gs.length cg) gs, RowV slE 22 (.slice aw ws.length cw) ws, RdS items ps (fun k => (bsF items k).length) (fun _ => 0), HoldR items gs, HoldR items ws, RowV slE 22 y.2 y.1, LsS items ps.length y.1]) (fun y => y.1.length = ps.length) ?_ ?_
    · refine hc_loop (X := Nat × List SlV × Value) (fun x => [(0, .pointer (some ⟨kb, 0, none⟩)), (1, .slice a2 (items.map (·.1)).length c2), (5, .slice ar ps.length cr), (6, .slice ag gs.length cg), (7, .slice aw ws.length cw), (13, x.2.2), (15, .int .i64 ((x.1 : Int) - 1))]) (fun x => [BkO kb ents, RowV ptrE 46 (.slice ar ps.length cr) ps, RowV slE 22 (.slice ag gs.length cg) gs, RowV slE 22 (.slice aw ws.length cw) ws, RdS items ps (fun k => if k < x.1 then 4 else (bsF items k).length) (fun _ => 0), HoldR items gs, HoldR items ws, RowV slE 22 x.2.2 x.2.1, LsS items ps.length x.2.1]) (fun x => x.1 ≤ ps.length ∧ x.2.1.length = ps.length - x.1) (fun x => x.1) (ps.length, [], .slice none 0 0) (.cons rfl (.cons rfl (.cons rfl (.cons rfl (.cons rfl (.cons rfl (.cons rfl .nil))))))) ⟨Nat.le_refl _, by simp⟩ (fun _ h => by
        have h1 := RdS_congr (fun k => if k < ps.length then 4 else (bsF items k).length) (fun _ => 0) (fun j hj => (if_pos hj).symm) (fun _ _ => rfl) (h.sub (.cons (.tail (.tail (.tail (.tail .head)))) (.cons .head (.cons .head (.cons .head (.cons .head (.cons .head (.cons .head .nil))))))))
        have h2 := LsS_nil (items := items) (N := ps.length) (St.rowV_nil (E := slE) (T := 22) h1)
        exact h2.sub (.cons (.tail (.tail (.tail .head))) (.cons (.tail (.tail (.tail .head))) (.cons (.tail (.tail (.tail .head))) (.cons (.tail (.tail (.tail .head))) (.cons (.tail (.tail .head)) (.cons (.tail (.tail .head)) (.cons (.tail (.tail .head)) (.cons (.tail .head) (.cons .head .nil)))))))))) ?_
      rintro ⟨m, ls, vl⟩ ⟨hm, hls⟩
      dsimp only at hm hls ⊢
      by_cases hm0 : m = 0
      · subst hm0
        (refine hc_seq ?_; refine hc_seq ?_; refine hc_lex ?_; refine hx_plain rfl ?_; refine h_move rfl rfl rfl rfl ?_; refine hx_plain rfl ?_; refine h_cmp rfl rfl rfl rfl rfl rfl ?_; refine hx_nil ?_; refine hq_then ?_; refine hc_condF rfl ?_; refine hc_exit ?_; refine hq_exit_then ?_; refine hq_exit_then ?_)
        refine hq_cut (ls, vl) hls (.cons rfl (.cons rfl (.cons rfl (.cons rfl (.cons rfl (.cons rfl .nil)))))) (fun _ h => ?_)
        exact (RdS_congr (fun k => (bsF items k).length) (fun _ => 0) (fun j _ => if_neg (Nat.not_lt_zero _)) (fun _ _ => rfl) (h.sub (.cons (.tail (.tail (.tail (.tail .head)))) (.cons .head (.cons .head (.cons .head (.cons .head (.cons .head (.cons .head (.cons .head (.cons .head .nil))))))))))).sub (.cons (.tail .head) (.cons (.tail .head) (.cons (.tail .head) (.cons (.tail .head) (.cons .head (.cons .head (.cons .head (.cons .head (.cons .head .nil)))))))))
      obtain ⟨i, rfl⟩ : ∃ i, m = i + 1 := ⟨m - 1, by omega⟩
      rw [show ((i + 1 : Nat) : Int) - 1 = (i : Int) by omega]
      have hlt : i < ps.length := by omega
      obtain ⟨p, hp⟩ : ∃ p, ps[i]? = some p := ⟨_, List.getElem?_eq_getElem hlt⟩
      have e1 : ps[((i : Nat) : Int).toNat]? = some p := by rw [show ((i : Nat) : Int).toNat = i by omega, hp]
      refine hc_rowV (.tail .head) (fun _ e => by rw [e] at hlt; exact absurd hlt (Nat.not_lt_zero _)) ?_
      intro gr cr' e
      injection e with e4 e5 e6
      subst e4 e6
      refine hc_open (.tail (.tail (.tail (.tail .head)))) (RdS_open hp) ?_
      rintro ⟨⟩
      rw [if_pos (Nat.lt_succ_self i)]
      have hbi := hbl i
      have hbi2 := bsF_len items i
      have hbd := bsF_body items i (hdl _)
      (refine hc_seq ?_; refine hc_seq ?_; refine hc_lex ?_; refine hx_plain rfl ?_; refine h_move rfl rfl rfl rfl ?_; refine hx_plain rfl ?_; refine h_cmp rfl rfl rfl rfl rfl rfl ?_; refine hx_nil ?_; refine hq_then ?_; refine hc_condT rfl ?_; refine hc_skip ?_; refine hq_then ?_; refine hc_seq ?_; refine hc_block ?_; refine hc_lex ?_; refine hx_plain rfl ?_; refine h_move rfl rfl rfl rfl ?_; refine hx_plain rfl ?_; refine h_move rfl rfl rfl rfl ?_; refine hx_plain rfl ?_; refine h_move rfl rfl rfl rfl ?_; refine hx_plain rfl ?_; refine h_rowAddr rfl rfl rfl UC.out IC.size (by omega) (by omega) rfl rfl ?_; refine hx_plain rfl ?_; refine h_rowLoad1 rfl (.tail (.tail .head)) rfl UC.out rfl (by with_reducible assumption) rfl rfl rfl ?_; refine hx_plain rfl ?_)
      refine h_callB hB hF rfl rfl rfl rfl rfl rfl rfl rfl EC.out (.cons .head .nil) (((bytes_all p (bsF items i) 4 0 4294967296 E g (by omega) (by omega) (bsF_byts items i hby)).toB hI).shape) ?_
      rintro u M ⟨an, cn, rfl, rfl⟩
      rw [hbd]
      dsimp only
      (refine hx_plain rfl ?_; (refine h_buildSlice rfl rfl rfl UC.out IC.size IC.zero rfl rfl (by intro v hv; simp at hv; first | (subst hv; rfl) | (rcases hv with rfl | rfl <;> rfl) | (rcases hv with rfl | rfl | rfl <;> rfl)) (by omega) rfl rfl (fun _ => ?_)); refine hx_plain rfl ?_)
      refine h_append (m := 1) (E := slE) (T := 22) (xs := ls) (ys := [⟨an, (dsOf items (i / 2)).length, cn⟩]) rfl rfl rfl rfl rfl UC.out IC.out rfl (.cons (.tail (.tail (.tail (.tail (.tail (.tail (.tail (.tail (.tail (.tail .head)))))))))) (.cons .head .nil)) rfl (one_row slE _) (by unfold maxLen; omega) (by omega) rfl rfl (fun vl' _ => ?_)
      (refine hx_plain rfl ?_; refine h_assign rfl rfl rfl rfl ?_; refine hx_nil ?_; refine hq_norm_block ?_; refine hq_then ?_; refine hc_lex ?_; refine hx_plain rfl ?_; refine h_move rfl rfl rfl rfl ?_; refine hx_plain rfl ?_; refine h_arithI rfl rfl rfl rfl (by omega) rfl rfl ?_; refine hx_plain rfl ?_; refine h_assign rfl rfl rfl rfl ?_; refine hx_nil ?_)
      refine hq_round (i, ls ++ [⟨an, (dsOf items (i / 2)).length, cn⟩], vl') (by show i < i + 1; omega) ⟨by show i ≤ ps.length; omega, by show (ls ++ [_]).length = ps.length - i; rw [List.length_append, hls]; show _ + 1 = _; omega⟩ (.cons rfl (.cons rfl (.cons rfl (.cons rfl (.cons rfl (.cons rfl (.cons rfl .nil))))))) (fun _ h => ?_)
      have h1 := RdS_shut' (fun k => if k < i then 4 else (bsF items k).length) (fun _ => 0) (if_neg (Nat.lt_irrefl i)) rfl hp (fun _ hj => (if_step hj _ _).symm) (fun _ _ => rfl) (h.sub (.cons (.tail (.tail (.tail .head))) (.cons (.tail (.tail (.tail .head))) (.cons .head (.cons (.tail .head) (.cons (.tail .head) (.cons (.tail .head) (.cons (.tail .head) (.cons (.tail .head) (.cons (.tail .head) (.cons (.tail .head) (.cons (.tail .head) .nil))))))))))))
      have h2 := (h1.sub (.cons (.tail (.tail (.tail .head))) (.cons .head (.cons .head (.cons .head (.cons .head (.cons .head (.cons .head (.cons .head (.cons .head (.cons .head .nil))))))))))).rowV_mk
      have h3 := LsS_add (items := items) (N := ps.length) (s := ⟨an, (dsOf items (i / 2)).length, cn⟩) (by rw [hls]; congr 1; omega) (h2.sub (.cons (.tail (.tail (.tail (.tail (.tail (.tail (.tail (.tail (.tail .head))))))))) (.cons (.tail (.tail (.tail .head))) (.cons .head (.cons .head (.cons .head (.cons .head (.cons .head (.cons .head (.cons .head (.cons .head .nil)))))))))))
      exact h3.sub (.cons (.tail (.tail (.tail (.tail .head)))) (.cons (.tail .head) (.cons (.tail (.tail (.tail .head))) (.cons (.tail (.tail (.tail .head))) (.cons (.tail .head) (.cons (.tail (.tail .head)) (.cons (.tail (.tail .head)) (.cons (.tail .head) (.cons .head .nil)))))))))
    rintro ⟨ls, vl⟩ hls
    dsimp only at hls ⊢
    (refine hq_exit_block ?_; refine hq_then ?_; refine hc_seq ?_; refine hc_seq ?_; refine hc_lex ?_; refine hx_plain rfl ?_; refine h_assign rfl rfl rfl rfl ?_; refine hx_nil ?_; refine hq_then ?_; refine hc_block ?_)
    refine hc_know (fun _ h => h.rowV_shape (.tail (.tail (.tail (.tail (.tail (.tail (.tail .head)))))))) ?_
    rintro ⟨al, cl, rfl⟩
    refine hc_cut (id := 6) (Y := List (SlV × Nat)) (fun _ => [(5, .slice ar ps.length cr), (6, .slice ag gs.length cg), (7, .slice aw ws.length cw)]) (fun y => [BkO kb y, RowV ptrE 46 (.slice ar ps.length cr) ps, RowV slE 22 (.slice ag gs.length cg) gs, RowV slE 22 (.slice aw ws.length cw) ws, RdS items ps (fun k => (bsF items k).length) (fun _ => 0), HoldR items gs, HoldR items ws]) (fun y => y.length = ents.length + 3 * ps.length ∧ BkW y) ?_ ?_
    · refine hc_loop (X := Nat × List (SlV × Nat)) (fun x => [(0, .pointer (some ⟨kb, 0, none⟩)), (1, .slice a2 (items.map (·.1)).length c2), (5, .slice ar ps.length cr), (6, .slice ag gs.length cg), (7, .slice aw ws.length cw), (13, .slice al ls.length cl), (16, .int .i64 (x.1 : Int))]) (fun x => [BkO kb x.2, RowV ptrE 46 (.slice ar ps.length cr) ps, RowV slE 22 (.slice ag gs.length cg) gs, RowV slE 22 (.slice aw ws.length cw) ws, RdS items ps (fun k => (bsF items k).length) (fun _ => 0), HoldR items gs, HoldR items ws, RowV slE 22 (.slice al ls.length cl) ls, All (((lsL items ps.length ls).drop x.1).map (lsA items))]) (fun x => x.1 ≤ ls.length ∧ x.2.length = ents.length + 3 * x.1 ∧ BkW x.2) (fun x => ls.length - x.1) (0, ents) (.cons rfl (.cons rfl (.cons rfl (.cons rfl (.cons rfl (.cons rfl (.cons rfl .nil))))))) ⟨Nat.zero_le _, rfl, hW⟩ (fun _ h => h) ?_
      rintro ⟨i, es⟩ ⟨hi, hel, hew⟩
      dsimp only at hi hel hew ⊢
      by_cases hlt : i < ls.length
      case neg =>
        obtain rfl : i = ls.length := by omega
        (refine hc_seq ?_; refine hc_seq ?_; refine hc_lex ?_; refine hx_plain rfl ?_; refine h_move rfl rfl rfl rfl ?_; refine hx_plain rfl ?_; refine h_move rfl rfl rfl rfl ?_; refine hx_plain rfl ?_; refine h_len_slice rfl rfl rfl UC.out rfl rfl rfl ?_; refine hx_plain rfl ?_; refine h_cmp rfl rfl rfl rfl rfl rfl ?_; refine hx_nil ?_; refine hq_then ?_; refine hc_condDF rfl (by omega) ?_; refine hc_exit ?_; refine hq_exit_then ?_; refine hq_exit_then ?_)
        exact hq_cut es ⟨by rw [hel, hls], hew⟩ (.cons rfl (.cons rfl (.cons rfl .nil))) (fun _ h => h.sub (.cons .head (.cons .head (.cons .head (.cons .head (.cons .head (.cons .head (.cons .head .nil))))))))
      obtain ⟨s, hs⟩ : ∃ s, ls[i]? = some s := ⟨_, List.getElem?_eq_getElem hlt⟩
      have e1 : ls[((i : Nat) : Int).toNat]? = some s := by rw [show ((i : Nat) : Int).toNat = i by omega, hs]
      obtain ⟨j, hj⟩ : ∃ j, (ps.length - 1 - i) / 2 = j := ⟨_, rfl⟩
      have hjl : j < items.length := by omega
      have hll : i < (lsL items ps.length ls).length := by rw [lsL_len]; exact hlt
      have hgt := lsL_get hll hs
      rw [hj] at hgt
      obtain ⟨g1, o1, rfl, r1⟩ := k2.resolve_left (fun e => by have := congrArg List.length e; rw [hml, List.length_nil] at this; omega)
      obtain ⟨⟨t, ds⟩, hq⟩ : ∃ q, items[j] = q := ⟨_, rfl⟩
      have hr := hit _ (List.getElem_mem hjl)
      have hdi := hds j hjl
      rw [hq] at hr hdi
      dsimp only at hr hdi
      have hdsl : ds.length ≤ 1048576 := by rw [← hdi]; exact hdl j
      have hcell : ∀ x L, St w F L x → x.cell? ⟨g1, o1 + (((ps.length : Int) - 1 - (i : Int)) / 2).toNat * 4 + 3, none⟩ = some t.sl.v := fun x L h => by
        have hc := r1 j t (by rw [List.getElem?_map, List.getElem?_eq_getElem hjl, hq]; rfl) 3 t.sl.v rfl
        rw [show (((ps.length : Int) - 1 - (i : Int)) / 2).toNat = j by omega]
        exact (h.butB hB hF).cell (fun h => h) hc
      have hrd : ∀ x L, St w F L x → Rd byteE x t.sl.v ds := fun x L h => hr.rd.but (h.butB hB hF)
      refine hc_rowV (.tail (.tail (.tail (.tail (.tail (.tail (.tail .head))))))) (fun _ e => by rw [e] at hlt; exact absurd hlt (Nat.not_lt_zero _)) ?_
      intro gl' cl' e
      injection e with e4 e5 e6
      subst e4 e6
      refine hc_open (.tail (.tail (.tail (.tail (.tail (.tail (.tail (.tail .head)))))))) (all_drop hll) ?_
      rintro ⟨⟩
      rw [hgt, show lsA items (s, j) = RowV byteE 5 s.v (dsOf items j) from rfl, hdi]
      (refine hc_seq ?_; refine hc_seq ?_; refine hc_lex ?_; refine hx_plain rfl ?_; refine h_move rfl rfl rfl rfl ?_; refine hx_plain rfl ?_; refine h_move rfl rfl rfl rfl ?_; refine hx_plain rfl ?_; refine h_len_slice rfl rfl rfl UC.out rfl rfl rfl ?_; refine hx_plain rfl ?_; refine h_cmp rfl rfl rfl rfl rfl rfl ?_; refine hx_nil ?_; refine hq_then ?_; refine hc_condDT rfl (by omega) ?_; refine hc_skip ?_; refine hq_then ?_; refine hc_seq ?_; refine hc_block ?_; refine hc_seq ?_; refine hc_lex ?_; refine hx_plain rfl ?_; refine h_move rfl rfl rfl rfl ?_; refine hx_plain rfl ?_; refine h_move rfl rfl rfl rfl ?_; refine hx_plain rfl ?_; refine h_len_slice rfl rfl rfl UC.out rfl rfl rfl ?_; refine hx_plain rfl ?_; refine h_arithI rfl rfl rfl rfl (by omega) rfl rfl ?_; refine hx_plain rfl ?_; refine h_move rfl rfl rfl rfl ?_; refine hx_plain rfl ?_; refine h_arithI rfl rfl rfl rfl (by omega) rfl rfl ?_; refine hx_plain rfl ?_; refine h_quoI rfl rfl rfl (by omega) rfl rfl ?_; refine hx_plain rfl ?_; refine h_indexAddr rfl rfl rfl UC.out IC.size (by omega) (by omega) rfl rfl ?_; refine hx_plain rfl ?_; refine h_fieldAddr rfl rfl FC.out rfl rfl ?_; refine hx_plain rfl ?_)
      refine h_cellLoad rfl rfl (fun x h => hcell x _ h) UC.out rfl rfl rfl ?_
      (refine hx_plain rfl ?_; refine h_assign rfl rfl rfl rfl ?_; refine hx_nil ?_; refine hq_then ?_; refine hc_seq ?_; refine hc_lex ?_; refine hx_plain rfl ?_; refine h_move rfl rfl rfl rfl ?_; refine hx_plain rfl ?_; refine h_move rfl rfl rfl rfl ?_; refine hx_plain rfl ?_; refine h_rowAddr rfl rfl rfl UC.out IC.size (by omega) (by omega) rfl rfl ?_; refine hx_plain rfl ?_; refine h_rowLoad1 rfl (.tail (.tail .head)) rfl UC.out rfl (by with_reducible assumption) rfl rfl rfl ?_; refine hx_plain rfl ?_; refine h_move rfl rfl rfl rfl ?_; refine hx_plain rfl ?_)
      refine h_callRd rfl rfl rfl rfl rfl rfl EC.out (fun w' h => sameBytes (h.rdRowV .head) (hrd w' _ h)) ?_
      rw [decide_eq_true rfl]
      (refine hx_plain rfl ?_; refine h_assign rfl rfl rfl rfl ?_; refine hx_nil ?_; refine hq_then ?_; refine hc_seq ?_; refine hc_seq ?_; refine hc_lex ?_; refine hx_plain rfl ?_; refine h_move rfl rfl rfl rfl ?_; refine hx_plain rfl ?_; refine h_not rfl rfl rfl rfl ?_; refine hx_nil ?_; refine hq_then ?_; refine hc_condF rfl ?_; refine hc_skip ?_; refine hq_then ?_; refine hc_lex ?_; refine hx_plain rfl ?_; refine h_move rfl rfl rfl rfl ?_; refine hx_plain rfl ?_; refine h_move rfl rfl rfl rfl ?_; refine hx_plain rfl ?_; refine h_move rfl rfl rfl rfl ?_; refine hx_plain rfl ?_; refine h_rowAddr rfl rfl rfl UC.out IC.size (by omega) (by omega) rfl rfl ?_; refine hx_plain rfl ?_; refine h_rowLoad1 rfl (.tail (.tail .head)) rfl UC.out rfl (by with_reducible assumption) rfl rfl rfl ?_; refine hx_plain rfl ?_)
      refine h_call rfl rfl rfl rfl rfl rfl rfl rfl EC.out (.cons (.tail (.tail (.tail .head))) (.cons .head .nil)) (keep_spec kb es s.v ds hew (by omega) (by omega)) ?_
      rintro u M ⟨rfl, es', hel', hew', rfl⟩
      (refine hx_nil ?_; refine hq_norm_block ?_; refine hq_then ?_; refine hc_lex ?_; refine hx_plain rfl ?_; refine h_move rfl rfl rfl rfl ?_; refine hx_plain rfl ?_; refine h_arithI rfl rfl rfl rfl (by omega) rfl rfl ?_; refine hx_plain rfl ?_; refine h_assign rfl rfl rfl rfl ?_; refine hx_nil ?_)
      refine hq_round (i + 1, es') (by show ls.length - (i + 1) < ls.length - i; omega) ⟨by show i + 1 ≤ ls.length; omega, by show es'.length = ents.length + 3 * (i + 1); omega, hew'⟩ (.cons rfl (.cons rfl (.cons rfl (.cons rfl (.cons rfl (.cons rfl (.cons rfl .nil))))))) (fun _ h => ?_)
      exact (h.sub (.cons (.tail (.tail .head)) (.cons .head (.cons (.tail .head) (.cons (.tail .head) (.cons (.tail .head) (.cons (.tail .head) (.cons (.tail .head) (.cons (.tail .head) (.cons .head .nil)))))))))).rowV_mk.sub (.cons (.tail .head) (.cons (.tail .head) (.cons (.tail .head) (.cons (.tail .head) (.cons (.tail .head) (.cons (.tail .head) (.cons (.tail .head) (.cons .head (.cons .head .nil)))))))))
    rintro es ⟨hel, hew⟩
    (refine hq_exit_block ?_; refine hq_then ?_; refine hc_seq ?_; refine hc_seq ?_; refine hc_lex ?_; refine hx_plain rfl ?_; refine h_assign rfl rfl rfl rfl ?_; refine hx_nil ?_; refine hq_then ?_; refine hc_block ?_)
    refine hc_cut (id := 8) (Y := Unit) (fun _ => []) (fun _ => [BkO kb es]) (fun _ => True) ?_ ?_
    · refine hc_loop (X := Nat) (fun i => [(5, .slice ar ps.length cr), (6, .slice ag gs.length cg), (7, .slice aw ws.length cw), (19, .int .i64 (i : Int))]) (fun i => [BkO kb es, RowV ptrE 46 (.slice ar ps.length cr) ps, RowV slE 22 (.slice ag gs.length cg) gs, RowV slE 22 (.slice aw ws.length cw) ws, RdS items ps (fun k => (bsF items k).length) (fun k => if k < i then 11 else 0), HoldR items gs, HoldR items ws]) (fun i => i ≤ ps.length) (fun i => ps.length - i) 0 (.cons rfl (.cons rfl (.cons rfl (.cons rfl .nil)))) (Nat.zero_le _) (fun _ h => h) ?_
      intro i hi
      by_cases hlt : i < ps.length
      case neg =>
        (refine hc_seq ?_; refine hc_seq ?_; refine hc_lex ?_; refine hx_plain rfl ?_; refine h_move rfl rfl rfl rfl ?_; refine hx_plain rfl ?_; refine h_move rfl rfl rfl rfl ?_; refine hx_plain rfl ?_; refine h_len_slice rfl rfl rfl UC.out rfl rfl rfl ?_; refine hx_plain rfl ?_; refine h_cmp rfl rfl rfl rfl rfl rfl ?_; refine hx_nil ?_; refine hq_then ?_; refine hc_condDF rfl (by omega) ?_; refine hc_exit ?_; refine hq_exit_then ?_; refine hq_exit_then ?_)
        exact hq_cut () trivial .nil (fun _ h => h.sub (.cons .head .nil))
      obtain ⟨p, hp⟩ : ∃ p, ps[i]? = some p := ⟨_, List.getElem?_eq_getElem hlt⟩
      have e1 : ps[((i : Nat) : Int).toNat]? = some p := by rw [show ((i : Nat) : Int).toNat = i by omega, hp]
      obtain ⟨sg, hsg⟩ : ∃ s, gs[i / 2]? = some s := ⟨_, List.getElem?_eq_getElem (by omega)⟩
      obtain ⟨sw, hsw⟩ : ∃ s, ws[i / 2]? = some s := ⟨_, List.getElem?_eq_getElem (by omega)⟩
      have e2 : gs[(((i : Nat) : Int) / 2).toNat]? = some sg := by rw [show (((i : Nat) : Int) / 2).toNat = i / 2 by omega, hsg]
      have e3 : ws[(((i : Nat) : Int) / 2).toNat]? = some sw := by rw [show (((i : Nat) : Int) / 2).toNat = i / 2 by omega, hsw]
      refine hc_rowV (.tail .head) (fun _ e => by rw [e] at hlt; exact absurd hlt (Nat.not_lt_zero _)) ?_
      intro gr cr' e
      injection e with e4 e5 e6
      subst e4 e6
      refine hc_rowV (.tail (.tail .head)) (fun _ e => by rw [e] at hsg; cases hsg) ?_
      intro gr2 cr2 e
      injection e with e4 e7 e6
      subst e4 e6
      refine hc_rowV (.tail (.tail (.tail .head))) (fun _ e => by rw [e] at hsw; cases hsw) ?_
      intro gr3 cr3 e
      injection e with e4 e8 e6
      subst e4 e6
      refine hc_open (.tail (.tail (.tail (.tail .head)))) (RdS_open hp) ?_
      rintro ⟨⟩
      rw [if_neg (Nat.lt_irrefl i)]
      have hbi := hbl i
      (refine hc_seq ?_; refine hc_seq ?_; refine hc_lex ?_; refine hx_plain rfl ?_; refine h_move rfl rfl rfl rfl ?_; refine hx_plain rfl ?_; refine h_move rfl rfl rfl rfl ?_; refine hx_plain rfl ?_; refine h_len_slice rfl rfl rfl UC.out rfl rfl rfl ?_; refine hx_plain rfl ?_; refine h_cmp rfl rfl rfl rfl rfl rfl ?_; refine hx_nil ?_; refine hq_then ?_; refine hc_condDT rfl (by omega) ?_; refine hc_skip ?_; refine hq_then ?_; refine hc_seq ?_; refine hc_block ?_; refine hc_seq ?_; refine hc_lex ?_; refine hx_plain rfl ?_; refine h_move rfl rfl rfl rfl ?_; refine hx_plain rfl ?_; refine h_move rfl rfl rfl rfl ?_; refine hx_plain rfl ?_; refine h_rowAddr rfl rfl rfl UC.out IC.size (by omega) (by omega) rfl rfl ?_; refine hx_plain rfl ?_; refine h_rowLoad1 rfl (.tail (.tail (.tail (.tail .head)))) rfl UC.out rfl (by with_reducible assumption) rfl rfl rfl ?_; refine hx_plain rfl ?_)
      refine h_call rfl rfl rfl rfl rfl rfl rfl rfl EC.out (.cons .head .nil) (close_spec p (bsF items i) (bsF items i).length 0) ?_
      rintro u M ⟨rfl, rfl⟩
      rw [bsF_close]
      (refine hx_plain rfl ?_; refine h_assign rfl rfl rfl rfl ?_; refine hx_nil ?_; refine hq_then ?_; refine hc_seq ?_; refine hc_lex ?_; refine hx_plain rfl ?_; refine h_move rfl rfl rfl rfl ?_; refine hx_plain rfl ?_; refine h_move rfl rfl rfl rfl ?_; refine hx_plain rfl ?_; refine h_rowAddr rfl rfl rfl UC.out IC.size (by omega) (by omega) rfl rfl ?_; refine hx_plain rfl ?_; refine h_rowLoad1 rfl (.tail (.tail (.tail (.tail .head)))) rfl UC.out rfl (by with_reducible assumption) rfl rfl rfl ?_; refine hx_plain rfl ?_)
      refine h_callB hB hF rfl rfl rfl rfl rfl rfl rfl rfl EC.out (.cons .head .nil) ((u32_all p (bsF items i) (bsF items i).length 0 9 E g (by omega) (Nat.le_refl _)).toB hI) ?_
      rintro u M ⟨rfl, rfl⟩
      rw [bsF_short]
      dsimp only
      (refine hx_nil ?_; refine hq_then ?_; refine hc_seq ?_)
      refine hc_drawO [0, 1, 2, 3, 4, 5, 6, 7, 8, 9, 10, 11] (fun _ => false) (by kernel_rfl) (by kernel_rfl) rfl ?_
      (refine hx_plain rfl ?_; refine h_move rfl rfl rfl rfl ?_; refine hx_plain rfl ?_; refine h_move rfl rfl rfl rfl ?_; refine hx_plain rfl ?_; refine h_quoI rfl rfl rfl (by omega) rfl rfl ?_; refine hx_plain rfl ?_; refine h_rowAddr rfl rfl rfl UC.out IC.size (by omega) (by omega) rfl rfl ?_; refine hx_plain rfl ?_; refine h_rowLoad1 rfl (.tail (.tail (.tail .head))) rfl UC.out rfl (by with_reducible assumption) rfl rfl rfl ?_; refine hx_plain rfl ?_; refine h_move rfl rfl rfl rfl ?_; refine hx_plain rfl ?_; refine h_move rfl rfl rfl rfl ?_; refine hx_plain rfl ?_; refine h_quoI rfl rfl rfl (by omega) rfl rfl ?_; refine hx_plain rfl ?_; refine h_rowAddr rfl rfl rfl UC.out IC.size (by omega) (by omega) rfl rfl ?_; refine hx_plain rfl ?_; refine h_rowLoad1 rfl (.tail (.tail .head)) rfl UC.out rfl (by with_reducible assumption) rfl rfl rfl ?_; refine hx_plain rfl ?_)
      refine h_callRd rfl rfl rfl rfl rfl rfl EC.out (fun w' h => sameBytes (h.rdHolds (.tail (.tail (.tail (.tail (.tail (.tail .head)))))) (HoldR_mem hsg)) (h.rdHolds (.tail (.tail (.tail (.tail (.tail (.tail (.tail .head))))))) (HoldR_mem hsw))) ?_
      rw [decide_eq_true rfl]
      (refine hx_plain rfl ?_; refine h_assign rfl rfl rfl rfl ?_; refine hx_nil ?_; refine hq_then ?_; refine hc_seq ?_; refine hc_lex ?_; refine hx_plain rfl ?_; refine h_move rfl rfl rfl rfl ?_; refine hx_plain rfl ?_)
      refine h_callR rfl rfl rfl rfl rfl rfl EC.out ((num_spec 0).reads _) ?_
      (refine hx_plain rfl ?_; refine h_cmp rfl rfl rfl rfl rfl rfl ?_; refine hx_plain rfl ?_; refine h_move rfl rfl rfl rfl ?_; refine hx_yes rfl rfl rfl ?_; refine h_move rfl rfl rfl rfl ?_; refine hx_yes rfl rfl rfl ?_; refine h_not rfl rfl rfl rfl ?_; refine hx_plain rfl ?_; refine h_pickF rfl rfl rfl rfl rfl ?_; refine hx_nil ?_; refine hq_then ?_; refine hc_condF rfl ?_; refine hc_skip ?_; refine hq_norm_block ?_; refine hq_then ?_; refine hc_lex ?_; refine hx_plain rfl ?_; refine h_move rfl rfl rfl rfl ?_; refine hx_plain rfl ?_; refine h_arithI rfl rfl rfl rfl (by omega) rfl rfl ?_; refine hx_plain rfl ?_; refine h_assign rfl rfl rfl rfl ?_; refine hx_nil ?_)
      refine hq_round (i + 1) (by omega) (by omega) (.cons rfl (.cons rfl (.cons rfl (.cons rfl .nil)))) (fun _ h => ?_)
      have h1 := RdS_shut' (fun k => (bsF items k).length) (fun k => if k < i + 1 then 11 else 0) rfl (if_pos (Nat.lt_succ_self i)) hp (fun _ _ => rfl) (fun _ hj => if_step hj _ _) h
      have h2 := (h1.sub (.cons (.tail .head) (.cons .head (.cons .head (.cons .head (.cons .head (.cons .head (.cons .head .nil)))))))).rowV_mk
      have h3 := (h2.sub (.cons (.tail (.tail .head)) (.cons .head (.cons .head (.cons .head (.cons .head (.cons .head (.cons .head .nil)))))))).rowV_mk
      have h4 := (h3.sub (.cons (.tail (.tail (.tail .head))) (.cons .head (.cons .head (.cons .head (.cons .head (.cons .head (.cons .head .nil)))))))).rowV_mk
      exact h4.sub (.cons (.tail (.tail (.tail (.tail .head)))) (.cons .head (.cons .head (.cons .head (.cons .head (.cons .head (.cons .head .nil)))))))
    rintro ⟨⟩ _
    (refine hq_exit_block ?_; refine hq_then ?_; refine hc_seq ?_; refine hc_lex ?_; refine hx_plain rfl ?_; refine h_assign rfl rfl rfl rfl ?_; refine hx_nil ?_; refine hq_then ?_; refine hc_ret ?_)
    exact hq_ret1 (.inr rfl) rfl rfl ⟨rfl, es, by omega, hew, rfl⟩ (fun _ h => h)
end Go.Proofs.YtjnnlfeohbidhaaDoor
