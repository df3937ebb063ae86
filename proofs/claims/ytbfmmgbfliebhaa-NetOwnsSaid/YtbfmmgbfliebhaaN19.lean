import Derived.Test.YtbfmmgbfliebhaaN18
namespace Go.Proofs.Ytbfmmgbfliebhaa
open Go Go.Proofs Go.RowKit
set_option maxRecDepth 4000

set_option maxHeartbeats 8000000 in
theorem tells2 {p i : Nat} {s t : NS} {ents : List KtM} {st : Int} {lg : Bool} {kind who no at_ v to many : Int} {sa : Option Addr} {sn sc : Nat} (hi : i = 0 ∨ i = 1) (hok : s.Ok) (hd : ∀ f ∈ s.l, f.data.length ≤ 140737488355200) (hst : 0 ≤ st ∧ st ≤ 1000000000000000) (hents : ents.length ≤ 2000) (hk3 : kind ≠ 3) :
    Spec Try.prog 39 [.pointer (some ⟨p, 0, none⟩), .int .i64 (i : Int), .agg #[.int .i64 kind, .int .i64 who, .int .i64 no, .int .i64 at_, .int .i64 v, .int .i64 to, .slice sa sn sc, .int .i64 many]] [PlO p i s t ents st lg]
      (fun u M => u = .bool true ∧ ∃ (ents' : List KtM), ents'.length ≤ ents.length + 300 ∧ M = [PlO p i s t ents' st lg]) := by
  refine spec_of Try.func39 rfl rfl (Nat.le_of_ble_eq_true rfl) (fun w F => ?_)
  refine hc_open .head PlO_open ?_
  rintro ⟨a, a', b, b', ba, bc⟩
  unfold plL
  dsimp only
  refine hc_seq ?_
  refine hc_lex ?_
  (refine hx_plain rfl ?_; (refine h_box rfl rfl rfl rfl rfl rfl (fun _ => ?_)); refine hx_plain rfl ?_; refine h_assign rfl rfl rfl rfl ?_; refine hx_nil ?_; refine hq_then ?_)
  refine hc_meet (Y := Unit) (fun _ => [(0, .pointer (some ⟨p, 0, none⟩)), (1, .int .i64 (i : Int))]) (fun _ => [Blk p (.cells (plC i a a' b b' (.slice ba ents.length bc) st lg) 60 (0, 0)), NetO a s, NtR b s, RowM ktE 89 (.slice ba ents.length bc) ents, Holds byteE (kH ents), NetO a' t, NtR b' t]) (fun _ => True) ?_ ?_
  · (refine hc_seq ?_; refine hc_lex ?_; refine hx_plain rfl ?_; refine h_fieldAddr0 rfl rfl FC.out rfl rfl ?_; refine hx_plain rfl ?_; refine h_load rfl rfl UC.out rfl .head rfl rfl rfl ?_; refine hx_plain rfl ?_; refine h_cmp rfl rfl rfl rfl rfl rfl ?_; refine hx_nil ?_; refine hq_then ?_; refine hc_condDF rfl (by omega) ?_; refine hc_skip ?_)
    exact hq_met () trivial (.cons rfl (.cons rfl .nil)) (fun _ h => h.drop)
  rintro ⟨⟩ _
  refine hc_meet (Y := Value) (fun y => [(0, .pointer (some ⟨p, 0, none⟩)), (1, .int .i64 (i : Int)), (12, y)]) (fun y => [FlO y s.l, NetO a s, Blk p (.cells (plC i a a' b b' (.slice ba ents.length bc) st lg) 60 (0, 0)), NtR b s, RowM ktE 89 (.slice ba ents.length bc) ents, Holds byteE (kH ents), NetO a' t, NtR b' t]) (fun _ => True) ?_ ?_
  · rcases hi with rfl | rfl
    ·
      first | rw [plC0] | rw [plC1]
      (refine hc_lex ?_; refine hx_plain rfl ?_; refine h_move rfl rfl rfl rfl ?_; refine hx_plain rfl ?_; refine h_move rfl rfl rfl rfl ?_; refine hx_plain rfl ?_; refine h_nilCheck rfl rfl rfl rfl ?_; refine hx_plain rfl ?_; refine h_fieldAddr0 rfl rfl FC.out rfl rfl ?_; refine hx_plain rfl ?_; refine h_indexAddrA rfl rfl rfl UC.out IC.size (by omega) rfl rfl ?_; refine hx_plain rfl ?_; refine h_load rfl rfl UC.out rfl .head rfl rfl rfl ?_; refine hx_plain rfl ?_)
      refine h_call rfl rfl rfl rfl rfl rfl rfl rfl EC.out (.cons (.tail .head) .nil) (under_spec hok hd) ?_
      rintro u M rfl
      (refine hx_plain rfl ?_; refine h_assign rfl rfl rfl rfl ?_; refine hx_nil ?_)
      exact hq_met u trivial (.cons rfl (.cons rfl (.cons rfl .nil))) (fun _ h => h.sub (.cons .head (.cons .head (.cons .head (.cons .head (.cons .head (.cons .head (.cons .head (.cons .head .nil)))))))))
    ·
      first | rw [plC0] | rw [plC1]
      (refine hc_lex ?_; refine hx_plain rfl ?_; refine h_move rfl rfl rfl rfl ?_; refine hx_plain rfl ?_; refine h_move rfl rfl rfl rfl ?_; refine hx_plain rfl ?_; refine h_nilCheck rfl rfl rfl rfl ?_; refine hx_plain rfl ?_; refine h_fieldAddr0 rfl rfl FC.out rfl rfl ?_; refine hx_plain rfl ?_; refine h_indexAddrA rfl rfl rfl UC.out IC.size (by omega) rfl rfl ?_; refine hx_plain rfl ?_; refine h_load rfl rfl UC.out rfl .head rfl rfl rfl ?_; refine hx_plain rfl ?_)
      refine h_call rfl rfl rfl rfl rfl rfl rfl rfl EC.out (.cons (.tail .head) .nil) (under_spec hok hd) ?_
      rintro u M rfl
      (refine hx_plain rfl ?_; refine h_assign rfl rfl rfl rfl ?_; refine hx_nil ?_)
      exact hq_met u trivial (.cons rfl (.cons rfl (.cons rfl .nil))) (fun _ h => h.sub (.cons .head (.cons .head (.cons .head (.cons .head (.cons .head (.cons .head (.cons .head (.cons .head .nil)))))))))
  rintro u _
  refine hc_meet (Y := Value) (fun y => [(0, .pointer (some ⟨p, 0, none⟩)), (1, .int .i64 (i : Int)), (12, u), (13, y)]) (fun y => [FlO y s.l, NtR b s, FlO u s.l, NetO a s, Blk p (.cells (plC i a a' b b' (.slice ba ents.length bc) st lg) 60 (0, 0)), RowM ktE 89 (.slice ba ents.length bc) ents, Holds byteE (kH ents), NetO a' t, NtR b' t]) (fun _ => True) ?_ ?_
  · rcases hi with rfl | rfl
    ·
      first | rw [plC0] | rw [plC1]
      (refine hc_lex ?_; refine hx_plain rfl ?_; refine h_move rfl rfl rfl rfl ?_; refine hx_plain rfl ?_; refine h_move rfl rfl rfl rfl ?_; refine hx_plain rfl ?_; refine h_nilCheck rfl rfl rfl rfl ?_; refine hx_plain rfl ?_; refine h_fieldAddr0 rfl rfl FC.out rfl rfl ?_; refine hx_plain rfl ?_; refine h_indexAddrA rfl rfl rfl UC.out IC.size (by omega) rfl rfl ?_; refine hx_plain rfl ?_; refine h_load rfl rfl UC.out rfl (.tail (.tail .head)) rfl rfl rfl ?_; refine hx_plain rfl ?_)
      refine h_call rfl rfl rfl rfl rfl rfl rfl rfl EC.out (.cons (.tail (.tail (.tail .head))) .nil) (runder_spec hok hd) ?_
      rintro u2 M rfl
      (refine hx_plain rfl ?_; refine h_assign rfl rfl rfl rfl ?_; refine hx_nil ?_)
      exact hq_met u2 trivial (.cons rfl (.cons rfl (.cons rfl (.cons rfl .nil)))) (fun _ h => h)
    ·
      first | rw [plC0] | rw [plC1]
      (refine hc_lex ?_; refine hx_plain rfl ?_; refine h_move rfl rfl rfl rfl ?_; refine hx_plain rfl ?_; refine h_move rfl rfl rfl rfl ?_; refine hx_plain rfl ?_; refine h_nilCheck rfl rfl rfl rfl ?_; refine hx_plain rfl ?_; refine h_fieldAddr0 rfl rfl FC.out rfl rfl ?_; refine hx_plain rfl ?_; refine h_indexAddrA rfl rfl rfl UC.out IC.size (by omega) rfl rfl ?_; refine hx_plain rfl ?_; refine h_load rfl rfl UC.out rfl (.tail (.tail .head)) rfl rfl rfl ?_; refine hx_plain rfl ?_)
      refine h_call rfl rfl rfl rfl rfl rfl rfl rfl EC.out (.cons (.tail (.tail (.tail .head))) .nil) (runder_spec hok hd) ?_
      rintro u2 M rfl
      (refine hx_plain rfl ?_; refine h_assign rfl rfl rfl rfl ?_; refine hx_nil ?_)
      exact hq_met u2 trivial (.cons rfl (.cons rfl (.cons rfl (.cons rfl .nil)))) (fun _ h => h)
  rintro u2 _
  refine hc_openP .head FlO_open ?_
  intro qs2 hq2
  refine hc_know (fun _ h => St.rowV_shapeS h .head) ?_
  rintro ⟨av2, cv2, rfl⟩
  refine hc_openP (.tail (.tail (.tail .head))) FlO_open ?_
  intro qs hqs
  refine hc_know (fun _ h => St.rowV_shapeS h .head) ?_
  rintro ⟨av, cv, rfl⟩
  have hn : qs.length = s.l.length := by rw [← hqs, List.length_map]
  have hn2 : qs2.length = s.l.length := by rw [← hq2, List.length_map]
  have hfew := hok.few
  (refine hc_seq ?_; refine hc_lex ?_; refine hx_plain rfl ?_; refine h_move rfl rfl rfl rfl ?_; refine hx_plain rfl ?_; refine h_move rfl rfl rfl rfl ?_; refine hx_plain rfl ?_)
  refine h_callRd rfl rfl rfl rfl rfl rfl EC.out (fun w' h => sameFlights (St.rdFlO (FlO_shut hqs h) .head) (St.rdFlO (FlO_shut hq2 (h.pulls (.cons (.tail (.tail .head)) (.cons (.tail (.tail .head)) .nil)))) .head)) ?_
  rw [show decide (s.l = s.l) = true from decide_eq_true rfl]
  (refine hx_plain rfl ?_; refine h_assign rfl rfl rfl rfl ?_; refine hx_nil ?_; refine hq_then ?_; refine hc_seq ?_; refine hc_seq ?_; refine hc_lex ?_; refine hx_plain rfl ?_; refine h_move rfl rfl rfl rfl ?_; refine hx_plain rfl ?_; refine h_not rfl rfl rfl rfl ?_; refine hx_nil ?_; refine hq_then ?_; refine hc_condF rfl ?_; refine hc_skip ?_; refine hq_then ?_; refine hc_seq ?_; refine hc_seq ?_; refine hc_lex ?_; refine hx_plain rfl ?_; refine h_assign rfl rfl rfl rfl ?_; refine hx_nil ?_; refine hq_then ?_; refine hc_block ?_)
  refine hc_cut (id := 0) (Y := List KtM × Option Addr × Nat) (fun y => [(0, .pointer (some ⟨p, 0, none⟩)), (12, .slice av qs.length cv), (13, .slice av2 qs2.length cv2)]) (fun y => [RowV qfE 52 (.slice av qs.length cv) qs, Blk p (.cells (plC i a a' b b' (.slice y.2.1 y.1.length y.2.2) st lg) 60 (0, 0)), NetO a s, NtR b s, RowM ktE 89 (.slice y.2.1 y.1.length y.2.2) y.1, Holds byteE (kH y.1), NetO a' t, NtR b' t]) (fun y => y.1.length ≤ ents.length + 300) ?_ ?_
  · refine hc_loop (X := Nat × List KtM × Option Addr × Nat) (fun x => [(0, .pointer (some ⟨p, 0, none⟩)), (12, .slice av qs.length cv), (13, .slice av2 qs2.length cv2), (15, .int .i64 (x.1 : Int))]) (fun x => [RowV qfE 52 (.slice av qs.length cv) qs, netR (qs.drop x.1), Blk p (.cells (plC i a a' b b' (.slice x.2.2.1 x.2.1.length x.2.2.2) st lg) 60 (0, 0)), NetO a s, NtR b s, RowM ktE 89 (.slice x.2.2.1 x.2.1.length x.2.2.2) x.2.1, Holds byteE (kH x.2.1), NetO a' t, NtR b' t]) (fun x => x.1 ≤ qs.length ∧ x.1 ≤ 100 ∧ x.2.1.length ≤ ents.length + 3 * x.1) (fun x => 100 - x.1) (0, ents, ba, bc) (.cons rfl (.cons rfl (.cons rfl (.cons rfl .nil)))) ⟨Nat.zero_le _, Nat.zero_le _, Nat.le_refl _⟩ (fun _ h => h.sub (.cons .head (.cons .head (.cons (.tail (.tail (.tail (.tail .head)))) (.cons (.tail (.tail (.tail .head))) (.cons (.tail (.tail .head)) (.cons (.tail (.tail .head)) (.cons (.tail (.tail .head)) (.cons (.tail (.tail .head)) (.cons (.tail (.tail .head)) .nil)))))))))) ?_
    rintro ⟨j, en, da, dc⟩ ⟨hj1, hj2, hj3⟩
    dsimp only at hj1 hj2 hj3 ⊢
    by_cases hlt : j < qs.length ∧ j < 100 ∧ lg = false
    · obtain ⟨h1, h2, rfl⟩ := hlt
      obtain ⟨q, hq⟩ : ∃ q, qs[j]? = some q := ⟨_, List.getElem?_eq_getElem h1⟩
      have hqd : q.f.data.length ≤ 140737488355200 := hd _ (by rw [← hqs]; exact List.mem_map_of_mem (List.mem_iff_getElem?.2 ⟨j, hq⟩))
      have e2 : qs[((j : Nat) : Int).toNat]? = some q := hq
      refine hc_rowV .head ?_ ?_
      · intro _ e
        rw [e] at h1
        exact absurd h1 (Nat.not_lt_zero _)
      rintro g cap e
      injection e with e1' e2' e3'
      subst e1' e3'
      refine hc_st (C' := St w F [RowV byteE 5 q.sl.v q.f.data, netR (qs.drop (j + 1)), Row qfE 52 g cv qs, Blk p (.cells (plC i a a' b b' (.slice da en.length dc) st false) 60 (0, 0)), NetO a s, NtR b s, RowM ktE 89 (.slice da en.length dc) en, Holds byteE (kH en), NetO a' t, NtR b' t]) (fun _ h => ?_) ?_
      · have h5 := rows_erase (ks := qs.drop j) (k := 0) (q := q) (by rw [List.getElem?_drop, Nat.add_zero]; exact hq) (h.perm (List.Perm.swap _ _ _))
        rw [show (qs.drop j).eraseIdx 0 = qs.drop (j + 1) by rw [List.eraseIdx_zero, List.tail_drop]] at h5
        exact h5
      rcases hi with rfl | rfl
      ·
        first | rw [plC0] | rw [plC1]
        (refine hc_seq ?_; refine hc_seq ?_; refine hc_lex ?_; refine hx_plain rfl ?_; refine h_move rfl rfl rfl rfl ?_; refine hx_plain rfl ?_; refine h_move rfl rfl rfl rfl ?_; refine hx_plain rfl ?_; refine h_len_slice rfl rfl rfl UC.out rfl rfl rfl ?_; refine hx_plain rfl ?_; refine h_cmp rfl rfl rfl rfl rfl rfl ?_; refine hx_plain rfl ?_; refine h_move rfl rfl rfl rfl ?_; refine hx_gT rfl rfl rfl (by omega) ?_; refine hx_yes rfl rfl rfl ?_; refine h_move rfl rfl rfl rfl ?_; refine hx_yes rfl rfl rfl ?_; refine h_cmp rfl rfl rfl rfl rfl rfl ?_; refine hx_plain rfl ?_; refine h_pickT rfl rfl rfl rfl rfl ?_; refine hx_plain rfl ?_; refine h_move rfl rfl rfl rfl ?_; refine hx_gT rfl rfl rfl (by omega) ?_; refine hx_yes rfl rfl rfl ?_; refine h_move rfl rfl rfl rfl ?_; refine hx_yes rfl rfl rfl ?_; refine h_nilCheck rfl rfl rfl rfl ?_; refine hx_yes rfl rfl rfl ?_; refine h_fieldAddr0 rfl rfl FC.out rfl rfl ?_; refine hx_yes rfl rfl rfl ?_; refine h_load rfl rfl UC.out rfl (.tail (.tail (.tail .head))) rfl rfl rfl ?_; refine hx_yes rfl rfl rfl ?_; refine h_not rfl rfl rfl rfl ?_; refine hx_plain rfl ?_; refine h_pickT rfl rfl rfl rfl rfl ?_; refine hx_nil ?_; refine hq_then ?_; refine hc_condT rfl ?_; refine hc_skip ?_; refine hq_then ?_; refine hc_seq ?_; refine hc_block ?_)
        refine hc_drawO [0, 1, 2, 3, 4, 5, 6, 7, 8, 9, 10, 11, 12, 13, 14, 15, 16] (fun i => Nat.beq i 12) (by kernel_rfl) (by kernel_rfl) rfl ?_
        (refine hx_plain rfl ?_; refine h_move rfl rfl rfl rfl ?_; refine hx_plain rfl ?_; refine h_move rfl rfl rfl rfl ?_; refine hx_plain rfl ?_; refine h_nilCheck rfl rfl rfl rfl ?_; refine hx_plain rfl ?_; refine h_fieldAddr0 rfl rfl FC.out rfl rfl ?_; refine hx_plain rfl ?_; refine h_load rfl rfl UC.out rfl (.tail (.tail (.tail .head))) rfl rfl rfl ?_; refine hx_plain rfl ?_; refine h_move rfl rfl rfl rfl ?_; refine hx_plain rfl ?_; refine h_move rfl rfl rfl rfl ?_; refine hx_plain rfl ?_; refine h_rowAddr rfl rfl rfl UC.out IC.size (by omega) (by omega) rfl rfl ?_; refine hx_plain rfl ?_; refine h_fieldAddr rfl rfl FC.out rfl rfl ?_; refine hx_plain rfl ?_; refine h_rowLoad rfl (.tail (.tail .head)) rfl UC.out rfl (by with_reducible assumption) rfl rfl rfl ?_; refine hx_plain rfl ?_; refine h_move rfl rfl rfl rfl ?_; refine hx_plain rfl ?_; refine h_move rfl rfl rfl rfl ?_; refine hx_plain rfl ?_)
        refine h_callWk (post := fun u M => ∃ m : Int, u = .int .u8 m ∧ M = []) rfl rfl rfl rfl rfl rfl rfl EC.out (fun w' h => mark_makes (blk_cel (vs := [_, _, _, _, _, _, _]) h (.tail (.tail (.tail .head)))) hst (by omega)) ?_
        rintro u M ⟨m, rfl, rfl⟩
        (refine hx_plain rfl ?_)
        refine h_call rfl rfl rfl rfl rfl rfl rfl rfl EC.out (.cons (.tail (.tail (.tail (.tail (.tail (.tail .head)))))) (.cons (.tail (.tail (.tail (.tail (.tail (.tail .head)))))) (.cons .head .nil))) (keep_spec (ents := en) (m := m) (xs := q.f.data) (by omega) (by omega)) ?_
        rintro u M ⟨ka, kc, en', rfl, hel, rfl⟩
        (refine hx_plain rfl ?_; refine h_nilCheck rfl rfl rfl rfl ?_; refine hx_plain rfl ?_; refine h_fieldAddr0 rfl rfl FC.out rfl rfl ?_; refine hx_plain rfl ?_; refine h_store rfl rfl rfl rfl rfl rfl IC.size (.tail (.tail (.tail (.tail .head)))) rfl rfl (Nat.le_of_ble_eq_true rfl) (List.all_eq_true.1 rfl) ?_; refine hx_nil ?_; refine hq_norm_block ?_; refine hq_then ?_; refine hc_lex ?_; refine hx_plain rfl ?_; refine h_move rfl rfl rfl rfl ?_; refine hx_plain rfl ?_; refine h_arithI rfl rfl rfl rfl (by omega) rfl rfl ?_; refine hx_plain rfl ?_; refine h_assign rfl rfl rfl rfl ?_; refine hx_nil ?_)
        refine hq_round (j + 1, en', ka, kc) (by show 100 - (j + 1) < 100 - j; omega) ⟨by show j + 1 ≤ qs.length; omega, by show j + 1 ≤ 100; omega, by show en'.length ≤ _; omega⟩ (.cons rfl (.cons rfl (.cons rfl (.cons rfl .nil)))) (fun w' h => ?_)
        exact St.rowV_mk (h.sub (.cons (.tail (.tail (.tail (.tail .head)))) (.cons (.tail (.tail (.tail .head))) (.cons .head (.cons (.tail (.tail .head)) (.cons (.tail (.tail .head)) (.cons .head (.cons .head (.cons .head (.cons .head .nil))))))))))
      ·
        first | rw [plC0] | rw [plC1]
        (refine hc_seq ?_; refine hc_seq ?_; refine hc_lex ?_; refine hx_plain rfl ?_; refine h_move rfl rfl rfl rfl ?_; refine hx_plain rfl ?_; refine h_move rfl rfl rfl rfl ?_; refine hx_plain rfl ?_; refine h_len_slice rfl rfl rfl UC.out rfl rfl rfl ?_; refine hx_plain rfl ?_; refine h_cmp rfl rfl rfl rfl rfl rfl ?_; refine hx_plain rfl ?_; refine h_move rfl rfl rfl rfl ?_; refine hx_gT rfl rfl rfl (by omega) ?_; refine hx_yes rfl rfl rfl ?_; refine h_move rfl rfl rfl rfl ?_; refine hx_yes rfl rfl rfl ?_; refine h_cmp rfl rfl rfl rfl rfl rfl ?_; refine hx_plain rfl ?_; refine h_pickT rfl rfl rfl rfl rfl ?_; refine hx_plain rfl ?_; refine h_move rfl rfl rfl rfl ?_; refine hx_gT rfl rfl rfl (by omega) ?_; refine hx_yes rfl rfl rfl ?_; refine h_move rfl rfl rfl rfl ?_; refine hx_yes rfl rfl rfl ?_; refine h_nilCheck rfl rfl rfl rfl ?_; refine hx_yes rfl rfl rfl ?_; refine h_fieldAddr0 rfl rfl FC.out rfl rfl ?_; refine hx_yes rfl rfl rfl ?_; refine h_load rfl rfl UC.out rfl (.tail (.tail (.tail .head))) rfl rfl rfl ?_; refine hx_yes rfl rfl rfl ?_; refine h_not rfl rfl rfl rfl ?_; refine hx_plain rfl ?_; refine h_pickT rfl rfl rfl rfl rfl ?_; refine hx_nil ?_; refine hq_then ?_; refine hc_condT rfl ?_; refine hc_skip ?_; refine hq_then ?_; refine hc_seq ?_; refine hc_block ?_)
        refine hc_drawO [0, 1, 2, 3, 4, 5, 6, 7, 8, 9, 10, 11, 12, 13, 14, 15, 16] (fun i => Nat.beq i 12) (by kernel_rfl) (by kernel_rfl) rfl ?_
        (refine hx_plain rfl ?_; refine h_move rfl rfl rfl rfl ?_; refine hx_plain rfl ?_; refine h_move rfl rfl rfl rfl ?_; refine hx_plain rfl ?_; refine h_nilCheck rfl rfl rfl rfl ?_; refine hx_plain rfl ?_; refine h_fieldAddr0 rfl rfl FC.out rfl rfl ?_; refine hx_plain rfl ?_; refine h_load rfl rfl UC.out rfl (.tail (.tail (.tail .head))) rfl rfl rfl ?_; refine hx_plain rfl ?_; refine h_move rfl rfl rfl rfl ?_; refine hx_plain rfl ?_; refine h_move rfl rfl rfl rfl ?_; refine hx_plain rfl ?_; refine h_rowAddr rfl rfl rfl UC.out IC.size (by omega) (by omega) rfl rfl ?_; refine hx_plain rfl ?_; refine h_fieldAddr rfl rfl FC.out rfl rfl ?_; refine hx_plain rfl ?_; refine h_rowLoad rfl (.tail (.tail .head)) rfl UC.out rfl (by with_reducible assumption) rfl rfl rfl ?_; refine hx_plain rfl ?_; refine h_move rfl rfl rfl rfl ?_; refine hx_plain rfl ?_; refine h_move rfl rfl rfl rfl ?_; refine hx_plain rfl ?_)
        refine h_callWk (post := fun u M => ∃ m : Int, u = .int .u8 m ∧ M = []) rfl rfl rfl rfl rfl rfl rfl EC.out (fun w' h => mark_makes (blk_cel (vs := [_, _, _, _, _, _, _]) h (.tail (.tail (.tail .head)))) hst (by omega)) ?_
        rintro u M ⟨m, rfl, rfl⟩
        (refine hx_plain rfl ?_)
        refine h_call rfl rfl rfl rfl rfl rfl rfl rfl EC.out (.cons (.tail (.tail (.tail (.tail (.tail (.tail .head)))))) (.cons (.tail (.tail (.tail (.tail (.tail (.tail .head)))))) (.cons .head .nil))) (keep_spec (ents := en) (m := m) (xs := q.f.data) (by omega) (by omega)) ?_
        rintro u M ⟨ka, kc, en', rfl, hel, rfl⟩
        (refine hx_plain rfl ?_; refine h_nilCheck rfl rfl rfl rfl ?_; refine hx_plain rfl ?_; refine h_fieldAddr0 rfl rfl FC.out rfl rfl ?_; refine hx_plain rfl ?_; refine h_store rfl rfl rfl rfl rfl rfl IC.size (.tail (.tail (.tail (.tail .head)))) rfl rfl (Nat.le_of_ble_eq_true rfl) (List.all_eq_true.1 rfl) ?_; refine hx_nil ?_; refine hq_norm_block ?_; refine hq_then ?_; refine hc_lex ?_; refine hx_plain rfl ?_; refine h_move rfl rfl rfl rfl ?_; refine hx_plain rfl ?_; refine h_arithI rfl rfl rfl rfl (by omega) rfl rfl ?_; refine hx_plain rfl ?_; refine h_assign rfl rfl rfl rfl ?_; refine hx_nil ?_)
        refine hq_round (j + 1, en', ka, kc) (by show 100 - (j + 1) < 100 - j; omega) ⟨by show j + 1 ≤ qs.length; omega, by show j + 1 ≤ 100; omega, by show en'.length ≤ _; omega⟩ (.cons rfl (.cons rfl (.cons rfl (.cons rfl .nil)))) (fun w' h => ?_)
        exact St.rowV_mk (h.sub (.cons (.tail (.tail (.tail (.tail .head)))) (.cons (.tail (.tail (.tail .head))) (.cons .head (.cons (.tail (.tail .head)) (.cons (.tail (.tail .head)) (.cons .head (.cons .head (.cons .head (.cons .head .nil))))))))))
    · rcases hi with rfl | rfl
      ·
        first | rw [plC0] | rw [plC1]
        by_cases h1 : j < qs.length
        · by_cases h2 : j < 100
          · cases lg
            · exact absurd ⟨h1, h2, rfl⟩ hlt
            · (refine hc_seq ?_; refine hc_seq ?_; refine hc_lex ?_; refine hx_plain rfl ?_; refine h_move rfl rfl rfl rfl ?_; refine hx_plain rfl ?_; refine h_move rfl rfl rfl rfl ?_; refine hx_plain rfl ?_; refine h_len_slice rfl rfl rfl UC.out rfl rfl rfl ?_; refine hx_plain rfl ?_; refine h_cmp rfl rfl rfl rfl rfl rfl ?_; refine hx_plain rfl ?_; refine h_move rfl rfl rfl rfl ?_; refine hx_gT rfl rfl rfl (by omega) ?_; refine hx_yes rfl rfl rfl ?_; refine h_move rfl rfl rfl rfl ?_; refine hx_yes rfl rfl rfl ?_; refine h_cmp rfl rfl rfl rfl rfl rfl ?_; refine hx_plain rfl ?_; refine h_pickT rfl rfl rfl rfl rfl ?_; refine hx_plain rfl ?_; refine h_move rfl rfl rfl rfl ?_; refine hx_gT rfl rfl rfl (by omega) ?_; refine hx_yes rfl rfl rfl ?_; refine h_move rfl rfl rfl rfl ?_; refine hx_yes rfl rfl rfl ?_; refine h_nilCheck rfl rfl rfl rfl ?_; refine hx_yes rfl rfl rfl ?_; refine h_fieldAddr0 rfl rfl FC.out rfl rfl ?_; refine hx_yes rfl rfl rfl ?_; refine h_load rfl rfl UC.out rfl (.tail (.tail .head)) rfl rfl rfl ?_; refine hx_yes rfl rfl rfl ?_; refine h_not rfl rfl rfl rfl ?_; refine hx_plain rfl ?_; refine h_pickT rfl rfl rfl rfl rfl ?_; refine hx_nil ?_; refine hq_then ?_; refine hc_condF rfl ?_; refine hc_exit ?_; refine hq_exit_then ?_; refine hq_exit_then ?_)
              exact hq_cut (en, da, dc) (by show en.length ≤ _; omega) (.cons rfl (.cons rfl (.cons rfl .nil))) (fun _ h => h.sub (.cons .head (.cons (.tail .head) (.cons (.tail .head) (.cons (.tail .head) (.cons (.tail .head) (.cons (.tail .head) (.cons (.tail .head) (.cons (.tail .head) .nil)))))))))
          · (refine hc_seq ?_; refine hc_seq ?_; refine hc_lex ?_; refine hx_plain rfl ?_; refine h_move rfl rfl rfl rfl ?_; refine hx_plain rfl ?_; refine h_move rfl rfl rfl rfl ?_; refine hx_plain rfl ?_; refine h_len_slice rfl rfl rfl UC.out rfl rfl rfl ?_; refine hx_plain rfl ?_; refine h_cmp rfl rfl rfl rfl rfl rfl ?_; refine hx_plain rfl ?_; refine h_move rfl rfl rfl rfl ?_; refine hx_gT rfl rfl rfl (by omega) ?_; refine hx_yes rfl rfl rfl ?_; refine h_move rfl rfl rfl rfl ?_; refine hx_yes rfl rfl rfl ?_; refine h_cmp rfl rfl rfl rfl rfl rfl ?_; refine hx_plain rfl ?_; refine h_pickT rfl rfl rfl rfl rfl ?_; refine hx_plain rfl ?_; refine h_move rfl rfl rfl rfl ?_; refine hx_gF rfl rfl rfl (by omega) ?_; refine hx_skip rfl rfl rfl rfl rfl rfl ?_; refine hx_skip rfl rfl rfl rfl rfl rfl ?_; refine hx_skip rfl rfl rfl rfl rfl rfl ?_; refine hx_skip rfl rfl rfl rfl rfl rfl ?_; refine hx_skip rfl rfl rfl rfl rfl rfl ?_; refine hx_plain rfl ?_; refine h_pickF rfl rfl rfl rfl rfl ?_; refine hx_nil ?_; refine hq_then ?_; refine hc_condF rfl ?_; refine hc_exit ?_; refine hq_exit_then ?_; refine hq_exit_then ?_)
            exact hq_cut (en, da, dc) (by show en.length ≤ _; omega) (.cons rfl (.cons rfl (.cons rfl .nil))) (fun _ h => h.sub (.cons .head (.cons (.tail .head) (.cons (.tail .head) (.cons (.tail .head) (.cons (.tail .head) (.cons (.tail .head) (.cons (.tail .head) (.cons (.tail .head) .nil)))))))))
        · (refine hc_seq ?_; refine hc_seq ?_; refine hc_lex ?_; refine hx_plain rfl ?_; refine h_move rfl rfl rfl rfl ?_; refine hx_plain rfl ?_; refine h_move rfl rfl rfl rfl ?_; refine hx_plain rfl ?_; refine h_len_slice rfl rfl rfl UC.out rfl rfl rfl ?_; refine hx_plain rfl ?_; refine h_cmp rfl rfl rfl rfl rfl rfl ?_; refine hx_plain rfl ?_; refine h_move rfl rfl rfl rfl ?_; refine hx_gF rfl rfl rfl (by omega) ?_; refine hx_skip rfl rfl rfl rfl rfl rfl ?_; refine hx_skip rfl rfl rfl rfl rfl rfl ?_; refine hx_plain rfl ?_; refine h_pickF rfl rfl rfl rfl rfl ?_; refine hx_plain rfl ?_; refine h_move rfl rfl rfl rfl ?_; refine hx_skip rfl rfl rfl rfl rfl rfl ?_; refine hx_skip rfl rfl rfl rfl rfl rfl ?_; refine hx_skip rfl rfl rfl rfl rfl rfl ?_; refine hx_skip rfl rfl rfl rfl rfl rfl ?_; refine hx_skip rfl rfl rfl rfl rfl rfl ?_; refine hx_plain rfl ?_; refine h_pickF rfl rfl rfl rfl rfl ?_; refine hx_nil ?_; refine hq_then ?_; refine hc_condF rfl ?_; refine hc_exit ?_; refine hq_exit_then ?_; refine hq_exit_then ?_)
          exact hq_cut (en, da, dc) (by show en.length ≤ _; omega) (.cons rfl (.cons rfl (.cons rfl .nil))) (fun _ h => h.sub (.cons .head (.cons (.tail .head) (.cons (.tail .head) (.cons (.tail .head) (.cons (.tail .head) (.cons (.tail .head) (.cons (.tail .head) (.cons (.tail .head) .nil)))))))))
      ·
        first | rw [plC0] | rw [plC1]
        by_cases h1 : j < qs.length
        · by_cases h2 : j < 100
          · cases lg
            · exact absurd ⟨h1, h2, rfl⟩ hlt
            · (refine hc_seq ?_; refine hc_seq ?_; refine hc_lex ?_; refine hx_plain rfl ?_; refine h_move rfl rfl rfl rfl ?_; refine hx_plain rfl ?_; refine h_move rfl rfl rfl rfl ?_; refine hx_plain rfl ?_; refine h_len_slice rfl rfl rfl UC.out rfl rfl rfl ?_; refine hx_plain rfl ?_; refine h_cmp rfl rfl rfl rfl rfl rfl ?_; refine hx_plain rfl ?_; refine h_move rfl rfl rfl rfl ?_; refine hx_gT rfl rfl rfl (by omega) ?_; refine hx_yes rfl rfl rfl ?_; refine h_move rfl rfl rfl rfl ?_; refine hx_yes rfl rfl rfl ?_; refine h_cmp rfl rfl rfl rfl rfl rfl ?_; refine hx_plain rfl ?_; refine h_pickT rfl rfl rfl rfl rfl ?_; refine hx_plain rfl ?_; refine h_move rfl rfl rfl rfl ?_; refine hx_gT rfl rfl rfl (by omega) ?_; refine hx_yes rfl rfl rfl ?_; refine h_move rfl rfl rfl rfl ?_; refine hx_yes rfl rfl rfl ?_; refine h_nilCheck rfl rfl rfl rfl ?_; refine hx_yes rfl rfl rfl ?_; refine h_fieldAddr0 rfl rfl FC.out rfl rfl ?_; refine hx_yes rfl rfl rfl ?_; refine h_load rfl rfl UC.out rfl (.tail (.tail .head)) rfl rfl rfl ?_; refine hx_yes rfl rfl rfl ?_; refine h_not rfl rfl rfl rfl ?_; refine hx_plain rfl ?_; refine h_pickT rfl rfl rfl rfl rfl ?_; refine hx_nil ?_; refine hq_then ?_; refine hc_condF rfl ?_; refine hc_exit ?_; refine hq_exit_then ?_; refine hq_exit_then ?_)
              exact hq_cut (en, da, dc) (by show en.length ≤ _; omega) (.cons rfl (.cons rfl (.cons rfl .nil))) (fun _ h => h.sub (.cons .head (.cons (.tail .head) (.cons (.tail .head) (.cons (.tail .head) (.cons (.tail .head) (.cons (.tail .head) (.cons (.tail .head) (.cons (.tail .head) .nil)))))))))
          · (refine hc_seq ?_; refine hc_seq ?_; refine hc_lex ?_; refine hx_plain rfl ?_; refine h_move rfl rfl rfl rfl ?_; refine hx_plain rfl ?_; refine h_move rfl rfl rfl rfl ?_; refine hx_plain rfl ?_; refine h_len_slice rfl rfl rfl UC.out rfl rfl rfl ?_; refine hx_plain rfl ?_; refine h_cmp rfl rfl rfl rfl rfl rfl ?_; refine hx_plain rfl ?_; refine h_move rfl rfl rfl rfl ?_; refine hx_gT rfl rfl rfl (by omega) ?_; refine hx_yes rfl rfl rfl ?_; refine h_move rfl rfl rfl rfl ?_; refine hx_yes rfl rfl rfl ?_; refine h_cmp rfl rfl rfl rfl rfl rfl ?_; refine hx_plain rfl ?_; refine h_pickT rfl rfl rfl rfl rfl ?_; refine hx_plain rfl ?_; refine h_move rfl rfl rfl rfl ?_; refine hx_gF rfl rfl rfl (by omega) ?_; refine hx_skip rfl rfl rfl rfl rfl rfl ?_; refine hx_skip rfl rfl rfl rfl rfl rfl ?_; refine hx_skip rfl rfl rfl rfl rfl rfl ?_; refine hx_skip rfl rfl rfl rfl rfl rfl ?_; refine hx_skip rfl rfl rfl rfl rfl rfl ?_; refine hx_plain rfl ?_; refine h_pickF rfl rfl rfl rfl rfl ?_; refine hx_nil ?_; refine hq_then ?_; refine hc_condF rfl ?_; refine hc_exit ?_; refine hq_exit_then ?_; refine hq_exit_then ?_)
            exact hq_cut (en, da, dc) (by show en.length ≤ _; omega) (.cons rfl (.cons rfl (.cons rfl .nil))) (fun _ h => h.sub (.cons .head (.cons (.tail .head) (.cons (.tail .head) (.cons (.tail .head) (.cons (.tail .head) (.cons (.tail .head) (.cons (.tail .head) (.cons (.tail .head) .nil)))))))))
        · (refine hc_seq ?_; refine hc_seq ?_; refine hc_lex ?_; refine hx_plain rfl ?_; refine h_move rfl rfl rfl rfl ?_; refine hx_plain rfl ?_; refine h_move rfl rfl rfl rfl ?_; refine hx_plain rfl ?_; refine h_len_slice rfl rfl rfl UC.out rfl rfl rfl ?_; refine hx_plain rfl ?_; refine h_cmp rfl rfl rfl rfl rfl rfl ?_; refine hx_plain rfl ?_; refine h_move rfl rfl rfl rfl ?_; refine hx_gF rfl rfl rfl (by omega) ?_; refine hx_skip rfl rfl rfl rfl rfl rfl ?_; refine hx_skip rfl rfl rfl rfl rfl rfl ?_; refine hx_plain rfl ?_; refine h_pickF rfl rfl rfl rfl rfl ?_; refine hx_plain rfl ?_; refine h_move rfl rfl rfl rfl ?_; refine hx_skip rfl rfl rfl rfl rfl rfl ?_; refine hx_skip rfl rfl rfl rfl rfl rfl ?_; refine hx_skip rfl rfl rfl rfl rfl rfl ?_; refine hx_skip rfl rfl rfl rfl rfl rfl ?_; refine hx_skip rfl rfl rfl rfl rfl rfl ?_; refine hx_plain rfl ?_; refine h_pickF rfl rfl rfl rfl rfl ?_; refine hx_nil ?_; refine hq_then ?_; refine hc_condF rfl ?_; refine hc_exit ?_; refine hq_exit_then ?_; refine hq_exit_then ?_)
          exact hq_cut (en, da, dc) (by show en.length ≤ _; omega) (.cons rfl (.cons rfl (.cons rfl .nil))) (fun _ h => h.sub (.cons .head (.cons (.tail .head) (.cons (.tail .head) (.cons (.tail .head) (.cons (.tail .head) (.cons (.tail .head) (.cons (.tail .head) (.cons (.tail .head) .nil)))))))))
  rintro ⟨en, da, dc⟩ hen
  dsimp only at hen ⊢
  (refine hq_exit_block ?_; refine hq_then ?_; refine hc_seq ?_; refine hc_seq ?_; refine hc_lex ?_; refine hx_plain rfl ?_; refine h_assign rfl rfl rfl rfl ?_; refine hx_nil ?_; refine hq_then ?_; refine hc_block ?_)
  refine hc_cut (id := 2) (Y := List QF) (fun y => [(12, .slice av qs.length cv), (13, .slice av2 qs2.length cv2)]) (fun y => [RowV qfE 52 (.slice av qs.length cv) y, Blk p (.cells (plC i a a' b b' (.slice da en.length dc) st lg) 60 (0, 0)), NetO a s, NtR b s, RowM ktE 89 (.slice da en.length dc) en, Holds byteE (kH en), NetO a' t, NtR b' t]) (fun y => y.length = qs.length) ?_ ?_
  · refine hc_loop (X := Nat × List QF) (fun x => [(12, .slice av qs.length cv), (13, .slice av2 qs2.length cv2), (16, .int .i64 (x.1 : Int))]) (fun x => [RowV qfE 52 (.slice av qs.length cv) x.2, Blk p (.cells (plC i a a' b b' (.slice da en.length dc) st lg) 60 (0, 0)), NetO a s, NtR b s, RowM ktE 89 (.slice da en.length dc) en, Holds byteE (kH en), NetO a' t, NtR b' t]) (fun x => x.1 ≤ qs.length ∧ x.2.length = qs.length) (fun x => qs.length - x.1) (0, qs) (.cons rfl (.cons rfl (.cons rfl .nil))) ⟨Nat.zero_le _, rfl⟩ (fun _ h => h) ?_
    rintro ⟨j, ys⟩ ⟨hj, hys⟩
    dsimp only at hj hys ⊢
    by_cases hlt : j < qs.length
    · refine hc_rowV .head ?_ ?_
      · intro _ e
        rw [e] at hys
        have : 0 = qs.length := hys
        omega
      rintro g cap e
      injection e with e1' e2' e3'
      subst e1' e3'
      obtain ⟨q, hq⟩ : ∃ q, ys[j]? = some q := ⟨_, List.getElem?_eq_getElem (by omega)⟩
      have e2 : ys[((j : Nat) : Int).toNat]? = some q := hq
      (refine hc_seq ?_; refine hc_seq ?_; refine hc_lex ?_; refine hx_plain rfl ?_; refine h_move rfl rfl rfl rfl ?_; refine hx_plain rfl ?_; refine h_move rfl rfl rfl rfl ?_; refine hx_plain rfl ?_; refine h_len_slice rfl rfl rfl UC.out rfl rfl rfl ?_; refine hx_plain rfl ?_; refine h_cmp rfl rfl rfl rfl rfl rfl ?_; refine hx_nil ?_; refine hq_then ?_; refine hc_condDT rfl (by omega) ?_; refine hc_skip ?_; refine hq_then ?_; refine hc_seq ?_; refine hc_block ?_; refine hc_lex ?_; refine hx_plain rfl ?_; refine h_move rfl rfl rfl rfl ?_; refine hx_plain rfl ?_; refine h_move rfl rfl rfl rfl ?_; refine hx_plain rfl ?_; refine h_build rfl inferInstance rfl rfl rfl rfl ?_; refine hx_plain rfl ?_; refine h_rowAddr rfl rfl rfl UC.out IC.size (by omega) (by omega) rfl rfl ?_; refine hx_plain rfl ?_)
      refine h_rowStoreN (E := qfE) (i := j) (z := ⟨⟨-7, 0, []⟩, ⟨none, 0, 0⟩⟩) rfl rfl rfl .head rfl rfl rfl IC.size e2 rfl rfl ?_
      (refine hx_nil ?_; refine hq_norm_block ?_; refine hq_then ?_; refine hc_lex ?_; refine hx_plain rfl ?_; refine h_move rfl rfl rfl rfl ?_; refine hx_plain rfl ?_; refine h_arithI rfl rfl rfl rfl (by omega) rfl rfl ?_; refine hx_plain rfl ?_; refine h_assign rfl rfl rfl rfl ?_; refine hx_nil ?_)
      refine hq_round (j + 1, ys.set j ⟨⟨-7, 0, []⟩, ⟨none, 0, 0⟩⟩) (by show qs.length - (j + 1) < qs.length - j; omega) ⟨by show j + 1 ≤ qs.length; omega, by show (ys.set j _).length = _; rw [List.length_set, hys]⟩ (.cons rfl (.cons rfl (.cons rfl .nil))) (fun w' h => ?_)
      have h3 := (show St w F (Row qfE 52 g cv (ys.set j ⟨⟨-7, 0, []⟩, ⟨none, 0, 0⟩⟩) :: _) w' from h).rowV_mk
      rw [List.length_set, hys] at h3
      exact h3
    · (refine hc_seq ?_; refine hc_seq ?_; refine hc_lex ?_; refine hx_plain rfl ?_; refine h_move rfl rfl rfl rfl ?_; refine hx_plain rfl ?_; refine h_move rfl rfl rfl rfl ?_; refine hx_plain rfl ?_; refine h_len_slice rfl rfl rfl UC.out rfl rfl rfl ?_; refine hx_plain rfl ?_; refine h_cmp rfl rfl rfl rfl rfl rfl ?_; refine hx_nil ?_; refine hq_then ?_; refine hc_condDF rfl (by omega) ?_; refine hc_exit ?_; refine hq_exit_then ?_; refine hq_exit_then ?_)
      exact hq_cut ys hys (.cons rfl (.cons rfl .nil)) (fun _ h => h)
  rintro ys hys
  (refine hq_exit_block ?_; refine hq_then ?_; refine hc_seq ?_; refine hc_lex ?_; refine hx_plain rfl ?_; refine h_move rfl rfl rfl rfl ?_; refine hx_plain rfl ?_; refine h_build rfl inferInstance rfl rfl rfl rfl ?_; refine hx_plain rfl ?_; refine h_build rfl inferInstance rfl rfl rfl rfl ?_; refine hx_plain rfl ?_; (refine h_buildSlice rfl rfl rfl UC.out IC.size IC.zero rfl rfl (by intro v hv; simp at hv; first | (subst hv; rfl) | (rcases hv with rfl | rfl <;> rfl) | (rcases hv with rfl | rfl | rfl <;> rfl)) (by omega) rfl rfl (fun _ => ?_)); refine hx_plain rfl ?_)
  refine h_appendR (m := 2) (E := qfE) (T := 52) (xs := ys) (ys := [⟨⟨-8, 0, []⟩, ⟨none, 0, 0⟩⟩, ⟨⟨-9, 0, []⟩, ⟨none, 0, 0⟩⟩]) rfl rfl rfl rfl rfl UC.out IC.out rfl (.cons (.tail .head) (.cons .head .nil)) rfl rfl (flat_row qfE _) (by unfold maxLen; omega) (by omega) rfl rfl (fun g' cap' => ?_)
  (refine hx_plain rfl ?_; refine h_assign rfl rfl rfl rfl ?_; refine hx_nil ?_; refine hq_then ?_; refine hc_seq ?_; refine hc_lex ?_; refine hx_plain rfl ?_; refine h_move rfl rfl rfl rfl ?_; refine hx_plain rfl ?_; refine h_len_slice rfl rfl rfl UC.out rfl rfl rfl ?_; refine hx_plain rfl ?_; refine h_move rfl rfl rfl rfl ?_; refine hx_plain rfl ?_; refine h_len_slice rfl rfl rfl UC.out rfl rfl rfl ?_; refine hx_plain rfl ?_; refine h_arithI rfl rfl rfl rfl (by omega) rfl rfl ?_; refine hx_plain rfl ?_; refine h_cmp rfl rfl rfl rfl rfl rfl ?_; refine hx_plain rfl ?_; refine h_assign rfl rfl rfl rfl ?_; refine hx_nil ?_; refine hq_then ?_; refine hc_ret ?_)
  refine hq_ret1 (.inr rfl) rfl rfl ⟨by rw [List.length_append, hys, hn, hn2]; simp, en, hen, rfl⟩ (fun w' h => ?_)
  exact PlO_shut ⟨a, a', b, b', da, dc⟩ (R := []) (h.sub (.cons (.tail (.tail .head)) (.cons (.tail (.tail .head)) (.cons (.tail (.tail .head)) (.cons (.tail (.tail .head)) (.cons (.tail (.tail .head)) (.cons (.tail (.tail .head)) (.cons (.tail (.tail .head)) .nil))))))))
end Go.Proofs.Ytbfmmgbfliebhaa
