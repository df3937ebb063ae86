import Derived.Test.YtjnnlfeohbidhaaDoorO4
namespace Go.Proofs.YtjnnlfeohbidhaaDoor
open Go Go.Proofs Go.RowKit
set_option maxRecDepth 4000

/-- A fresh array is a row. -/
theorem St.blk_row {X : Type} {E : Elem X} {T b : Nat} {cs : Array Value} {xs : List X} {w w0 : World} {F0 : Nat → Prop} {L : List Asn} (h : St w0 F0 (Blk b (.cells cs T (0, 0)) :: L) w) (hs : cs.size = xs.length * E.sz) (hl : xs.length ≤ maxLen) (hr : ∀ i x, xs[i]? = some x → ∀ j v, (E.enc x)[j]? = some v → cs[i * E.sz + j]? = some v) : St w0 F0 (Row E T b xs.length xs :: L) w :=
  h.map fun F hp => by
    obtain ⟨h1, h2⟩ := hp
    exact ⟨h1, cs, h2, Nat.le_refl _, hl, hs, hr⟩
theorem itR_cons {w : World} {t : ItM} {ds : List Int} (h : ItR w t ds) : ds.length = t.sl.len := h.slen.symm
set_option maxHeartbeats 8000000 in
theorem bitsown_law {E : Addr} {g : Nat} {w : World} {v1 v2 : Value} {bs : List Int} {items : List (ItM × List Int)} (hI : Glo (gl E) g w) (h1 : Rd byteE w v1 bs) (h2 : Rd itE w v2 (items.map (·.1))) (hit : ∀ q ∈ items, ItR w q.1 q.2) (hbl : bs.length ≤ 1048576) (htot : (items.map (fun q => q.2.length + 1)).sum ≤ 1048576) :
    Calls Tryd.prog 5 [v1, v2].toArray w (fun en w' => en = .returned (.bool true) ∧ But w w' nowhere) := by
  have hF : ∀ b, nowhere b → g ≤ b := fun _ h => h.elim
  have hF1 : ∀ b, nowhere b → w.heap.size ≤ b := fun _ h => h.elim
  have hn := sum_len items
  have hml : (items.map (·.1)).length = items.length := List.length_map ..
  have hRd := h2
  obtain ⟨a2, c2, rfl, l2, m2, k2⟩ := h2
  unfold maxLen at m2
  refine reads_of Tryd.func5 rfl rfl (Nat.le_of_ble_eq_true rfl) ?_
  (refine hc_seq ?_; refine hc_lex ?_; refine hx_plain rfl ?_; refine h_assign rfl rfl rfl rfl ?_; refine hx_nil ?_; refine hq_then ?_; refine hc_seq ?_; refine hc_lex ?_; refine hx_plain rfl ?_)
  refine h_callI hI hF rfl rfl rfl rfl rfl rfl rfl rfl EC.out .nil (head_spec E g) ?_
  rintro u M ⟨rfl, rfl⟩
  (refine hx_plain rfl ?_; refine h_assign rfl rfl rfl rfl ?_; refine hx_nil ?_; refine hq_then ?_; refine hc_seq ?_; refine hc_seq ?_; refine hc_lex ?_; refine hx_plain rfl ?_; refine h_move rfl rfl rfl rfl ?_; refine hx_plain rfl ?_; refine h_not rfl rfl rfl rfl ?_; refine hx_nil ?_; refine hq_then ?_; refine hc_condF rfl ?_; refine hc_skip ?_; refine hq_then ?_; refine hc_seq ?_; refine hc_lex ?_; refine hx_plain rfl ?_; refine h_build rfl inferInstance rfl rfl rfl rfl ?_; refine hx_plain rfl ?_; (refine h_box rfl rfl rfl rfl rfl rfl (fun _ => ?_)); refine hx_plain rfl ?_; refine h_assign rfl rfl rfl rfl ?_; refine hx_nil ?_; refine hq_then ?_; refine hc_seq ?_; refine hc_seq ?_; refine hc_lex ?_; refine hx_plain rfl ?_; refine h_assign rfl rfl rfl rfl ?_; refine hx_nil ?_; refine hq_then ?_; refine hc_block ?_)
  rename_i kb
  refine hc_cut (id := 0) (Y := List (SlV × Nat)) (fun _ => [(1, .slice a2 (items.map (·.1)).length c2), (6, .pointer (some ⟨kb, 0, none⟩))]) (fun y => [BkO kb y]) (fun y => y.length = 9 * items.length ∧ BkW y) ?_ ?_
  · refine hc_loop (X := Nat × List (SlV × Nat)) (fun x => [(0, v1), (1, .slice a2 (items.map (·.1)).length c2), (6, .pointer (some ⟨kb, 0, none⟩)), (7, .int .i64 (x.1 : Int))]) (fun x => [BkO kb x.2]) (fun x => x.1 ≤ items.length ∧ x.2.length = 9 * x.1 ∧ BkW x.2) (fun x => items.length - x.1) (0, []) (.cons rfl (.cons rfl (.cons rfl (.cons rfl .nil)))) ⟨Nat.zero_le _, rfl, rfl, fun _ h => by cases h⟩ (fun _ h => (BkO_new h).sub (.cons .head .nil)) ?_
    rintro ⟨i, es⟩ ⟨hi, hel, hew⟩
    dsimp only at hi hel hew ⊢
    by_cases hlt : i < items.length
    case neg =>
      obtain rfl : i = items.length := by omega
      (refine hc_seq ?_; refine hc_seq ?_; refine hc_lex ?_; refine hx_plain rfl ?_; refine h_move rfl rfl rfl rfl ?_; refine hx_plain rfl ?_; refine h_move rfl rfl rfl rfl ?_; refine hx_plain rfl ?_; refine h_len_slice rfl rfl rfl UC.out rfl rfl rfl ?_; refine hx_plain rfl ?_; refine h_cmp rfl rfl rfl rfl rfl rfl ?_; refine hx_nil ?_; refine hq_then ?_; refine hc_condDF rfl (by omega) ?_; refine hc_exit ?_; refine hq_exit_then ?_; refine hq_exit_then ?_)
      exact hq_cut es ⟨hel, hew⟩ (.cons rfl (.cons rfl .nil)) (fun _ h => h)
    have hps : items.map (·.1) ≠ [] := by
      intro e
      have := congrArg List.length e
      rw [hml, List.length_nil] at this
      omega
    obtain ⟨g1, o1, rfl, r1⟩ := k2.resolve_left hps
    obtain ⟨⟨t, ds⟩, hq⟩ : ∃ q, items[i] = q := ⟨_, rfl⟩
    have e1 : (items.map (·.1))[((i : Nat) : Int).toNat]? = some t := by
      rw [List.getElem?_map, show ((i : Nat) : Int).toNat = i by omega, List.getElem?_eq_getElem hlt, hq]
      rfl
    have hr := hit _ (List.getElem_mem hlt)
    have hdl := sum_mem items _ (List.getElem_mem hlt)
    rw [hq] at hr hdl
    dsimp only at hr hdl
    have hil := itB_len t ds
    obtain ⟨xs, hxs⟩ : ∃ xs, bs ++ itB t ds = xs := ⟨_, rfl⟩
    have hxl : xs.length ≤ 3145728 := by rw [← hxs, List.length_append]; omega
    have hput : ∀ w', But w w' nowhere → Makes Tryd.prog 13 [v1, t.v] w' (fun u M => ∃ a c, u = .slice a xs.length c ∧ M = [RowV byteE 5 u xs]) := fun w' hb => by
      have := (put_makes t (h1.but hb) (hr.rd.but hb) hr.byts (by omega)).shape
      rw [hxs] at this
      exact this
    have hwant : ∀ w', But w w' nowhere → Makes Tryd.prog 14 [v1, t.v] w' (fun u M => M = [RowV byteE 5 u xs]) := fun w' hb => by
      have := want_makes t hr.s (h1.but hb) (hr.rd.but hb) hr.byts (by omega)
      rw [hxs] at this
      exact this
    (refine hc_seq ?_; refine hc_seq ?_; refine hc_lex ?_; refine hx_plain rfl ?_; refine h_move rfl rfl rfl rfl ?_; refine hx_plain rfl ?_; refine h_move rfl rfl rfl rfl ?_; refine hx_plain rfl ?_; refine h_len_slice rfl rfl rfl UC.out rfl rfl rfl ?_; refine hx_plain rfl ?_; refine h_cmp rfl rfl rfl rfl rfl rfl ?_; refine hx_nil ?_; refine hq_then ?_; refine hc_condDT rfl (by omega) ?_; refine hc_skip ?_; refine hq_then ?_; refine hc_seq ?_; refine hc_block ?_; refine hc_seq ?_; refine hc_lex ?_; refine hx_plain rfl ?_; refine h_move rfl rfl rfl rfl ?_; refine hx_plain rfl ?_; refine h_move rfl rfl rfl rfl ?_; refine hx_plain rfl ?_; refine h_move rfl rfl rfl rfl ?_; refine hx_plain rfl ?_; refine h_indexAddr rfl rfl rfl UC.out IC.size (by omega) (by omega) rfl rfl ?_; refine hx_plain rfl ?_; refine h_rdLoadN rfl r1 rfl UC.out rfl IC.size (by with_reducible assumption) rfl rfl rfl ?_; refine hx_plain rfl ?_)
    refine h_callW (post := fun u M => ∃ a c, u = .slice a xs.length c ∧ M = [RowV byteE 5 u xs]) rfl rfl rfl rfl rfl rfl rfl rfl EC.out (fun w' h => hput w' h.but) ?_
    rintro va M ⟨aa, ca, rfl, rfl⟩
    (refine hx_plain rfl ?_; refine h_assign rfl rfl rfl rfl ?_; refine hx_nil ?_; refine hq_then ?_; refine hc_seq ?_; refine hc_lex ?_; refine hx_plain rfl ?_; refine h_move rfl rfl rfl rfl ?_; refine hx_plain rfl ?_; refine h_move rfl rfl rfl rfl ?_; refine hx_plain rfl ?_; refine h_move rfl rfl rfl rfl ?_; refine hx_plain rfl ?_; refine h_indexAddr rfl rfl rfl UC.out IC.size (by omega) (by omega) rfl rfl ?_; refine hx_plain rfl ?_; refine h_rdLoadN rfl r1 rfl UC.out rfl IC.size (by with_reducible assumption) rfl rfl rfl ?_; refine hx_plain rfl ?_)
    refine h_callW (post := fun u M => ∃ a c, u = .slice a xs.length c ∧ M = [RowV byteE 5 u xs]) rfl rfl rfl rfl rfl rfl rfl rfl EC.out (fun w' h => hput w' h.but) ?_
    rintro vb M ⟨ab, cb, rfl, rfl⟩
    (refine hx_plain rfl ?_; refine h_assign rfl rfl rfl rfl ?_; refine hx_nil ?_; refine hq_then ?_; refine hc_seq ?_; refine hc_lex ?_; refine hx_plain rfl ?_; refine h_move rfl rfl rfl rfl ?_; refine hx_plain rfl ?_; refine h_move rfl rfl rfl rfl ?_; refine hx_plain rfl ?_; refine h_move rfl rfl rfl rfl ?_; refine hx_plain rfl ?_; refine h_indexAddr rfl rfl rfl UC.out IC.size (by omega) (by omega) rfl rfl ?_; refine hx_plain rfl ?_; refine h_rdLoadN rfl r1 rfl UC.out rfl IC.size (by with_reducible assumption) rfl rfl rfl ?_; refine hx_plain rfl ?_)
    refine h_callW (post := fun u M => ∃ a c, u = .slice a xs.length c ∧ M = [RowV byteE 5 u xs]) rfl rfl rfl rfl rfl rfl rfl rfl EC.out (fun w' h => hput w' h.but) ?_
    rintro vc M ⟨ac, cc, rfl, rfl⟩
    (refine hx_plain rfl ?_; refine h_assign rfl rfl rfl rfl ?_; refine hx_nil ?_; refine hq_then ?_; refine hc_seq ?_; refine hc_lex ?_; refine hx_plain rfl ?_; refine h_move rfl rfl rfl rfl ?_; refine hx_plain rfl ?_; refine h_move rfl rfl rfl rfl ?_; refine hx_plain rfl ?_; refine h_move rfl rfl rfl rfl ?_; refine hx_plain rfl ?_; refine h_move rfl rfl rfl rfl ?_; refine hx_plain rfl ?_; (refine h_buildSlice rfl rfl rfl UC.out IC.size IC.zero rfl rfl (by intro v hv; simp at hv; first | (subst hv; rfl) | (rcases hv with rfl | rfl <;> rfl) | (rcases hv with rfl | rfl | rfl <;> rfl)) (by omega) rfl rfl (fun _ => ?_)); refine hx_plain rfl ?_; refine h_move rfl rfl rfl rfl ?_; refine hx_plain rfl ?_; refine h_move rfl rfl rfl rfl ?_; refine hx_plain rfl ?_; refine h_move rfl rfl rfl rfl ?_; refine hx_plain rfl ?_; refine h_indexAddr rfl rfl rfl UC.out IC.size (by omega) (by omega) rfl rfl ?_; refine hx_plain rfl ?_; refine h_rdLoadN rfl r1 rfl UC.out rfl IC.size (by with_reducible assumption) rfl rfl rfl ?_; refine hx_plain rfl ?_)
    refine h_callW (post := fun u M => M = [RowV byteE 5 u xs]) rfl rfl rfl rfl rfl rfl rfl rfl EC.out (fun w' h => hwant w' h.but) ?_
    rintro vw M rfl
    (refine hx_plain rfl ?_)
    rename_i arr
    obtain ⟨sls, hsls⟩ : ∃ sls : List SlV, sls = [⟨aa, xs.length, ca⟩, ⟨ab, xs.length, cb⟩, ⟨ac, xs.length, cc⟩] := ⟨_, rfl⟩
    have h3 : sls.length = 3 := by rw [hsls]; rfl
    refine hx1_conv rfl rfl (C' := St w nowhere [BkO kb es, Row slE 22 arr sls.length sls, RowV byteE 5 vw xs, All (sls.map fun s => RowV byteE 5 s.v xs)]) (fun _ h => ?_) ?_
    · have q1 := St.blk_row (E := slE) (xs := [⟨aa, xs.length, ca⟩, ⟨ab, xs.length, cb⟩, ⟨ac, xs.length, cc⟩]) (h.sub (M := Blk arr _ :: _) (.cons (.tail .head) (.cons (.tail (.tail (.tail .head))) (.cons (.tail (.tail .head)) (.cons (.tail .head) (.cons (.tail .head) (.cons .head .nil))))))) rfl (by show 3 ≤ maxLen; decide) (flat_row slE _)
      have q2 := (St.all (M := [RowV byteE 5 (.slice aa xs.length ca) xs, RowV byteE 5 (.slice ab xs.length cb) xs, RowV byteE 5 (.slice ac xs.length cc) xs])).2 (q1.sub (.cons (.tail .head) (.cons (.tail .head) (.cons (.tail .head) (.cons (.tail .head) (.cons .head (.cons .head .nil)))))))
      rw [hsls]
      exact q2.sub (.cons (.tail .head) (.cons (.tail .head) (.cons (.tail .head) (.cons .head .nil))))
    subst hsls
    skip
    refine h_call rfl rfl rfl rfl rfl rfl rfl rfl EC.out (.cons .head (.cons .head (.cons .head (.cons .head .nil)))) (all_spec kb es arr 3 [⟨aa, xs.length, ca⟩, ⟨ab, xs.length, cb⟩, ⟨ac, xs.length, cc⟩] vw xs hew (by show es.length + 9 ≤ _; omega) (by omega) (by show (3 : Nat) ≤ 1048576; decide)) ?_
    rintro u M ⟨rfl, es', hel', hew', rfl⟩
    have hel2 : es'.length = es.length + 9 := hel'
    (refine hx_plain rfl ?_; refine h_assign rfl rfl rfl rfl ?_; refine hx_nil ?_; refine hq_then ?_; refine hc_seq ?_; refine hc_lex ?_; refine hx_plain rfl ?_; refine h_move rfl rfl rfl rfl ?_; refine hx_plain rfl ?_; refine h_not rfl rfl rfl rfl ?_; refine hx_nil ?_; refine hq_then ?_; refine hc_condF rfl ?_; refine hc_skip ?_; refine hq_norm_block ?_; refine hq_then ?_; refine hc_lex ?_; refine hx_plain rfl ?_; refine h_move rfl rfl rfl rfl ?_; refine hx_plain rfl ?_; refine h_arithI rfl rfl rfl rfl (by omega) rfl rfl ?_; refine hx_plain rfl ?_; refine h_assign rfl rfl rfl rfl ?_; refine hx_nil ?_)
    exact hq_round (i + 1, es') (by show items.length - (i + 1) < items.length - i; omega) ⟨by show i + 1 ≤ items.length; omega, by show es'.length = 9 * (i + 1); omega, hew'⟩ (.cons rfl (.cons rfl (.cons rfl (.cons rfl .nil)))) (fun _ h => h.sub (.cons .head .nil))
  · rintro es ⟨hel, hew⟩
    (refine hq_exit_block ?_; refine hq_then ?_; refine hc_seq ?_; refine hc_lex ?_; refine hx_plain rfl ?_; refine h_move rfl rfl rfl rfl ?_; refine hx_plain rfl ?_; refine h_move rfl rfl rfl rfl ?_; refine hx_plain rfl ?_)
    refine h_callB (.refl w nowhere) hF1 rfl rfl rfl rfl rfl rfl rfl rfl EC.out (.cons .head .nil) (readers_spec hI kb es items hRd hit htot hew (by omega)) ?_
    rintro u M ⟨rfl, es', hel', hew', rfl⟩
    (refine hx_plain rfl ?_; refine h_assign rfl rfl rfl rfl ?_; refine hx_nil ?_; refine hq_then ?_; refine hc_seq ?_; refine hc_lex ?_; refine hx_plain rfl ?_; refine h_move rfl rfl rfl rfl ?_; refine hx_plain rfl ?_; refine h_move rfl rfl rfl rfl ?_; refine hx_yes rfl rfl rfl ?_; refine h_move rfl rfl rfl rfl ?_; refine hx_yes rfl rfl rfl ?_)
    refine h_call rfl rfl rfl rfl rfl rfl rfl rfl EC.out (.cons .head .nil) (whole_spec kb es' (by omega) hew') ?_
    rintro u M ⟨rfl, rfl⟩
    (refine hx_plain rfl ?_; refine h_pickT rfl rfl rfl rfl rfl ?_; refine hx_plain rfl ?_; refine h_assign rfl rfl rfl rfl ?_; refine hx_nil ?_; refine hq_then ?_; refine hc_ret ?_)
    exact hq_ret1 (.inr rfl) rfl rfl ⟨rfl, rfl⟩ (fun _ h => h.emp)
end Go.Proofs.YtjnnlfeohbidhaaDoor
