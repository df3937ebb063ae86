import Derived.Test.YtmdkboojafbpcaaDoorQ5
namespace Go.Proofs.YtmdkboojafbpcaaDoor
open Go Go.Proofs
set_option maxRecDepth 4000

abbrev nmL (s : Shp) : List Value := [.int .i64 s.c, .int .i64 s.w, .int .i64 s.p, .int .i64 s.k, .int .i64 s.i, .int .i64 s.q, .int .i64 s.d, .int .i64 s.j]
theorem rnumbers_spec (s : Shp) : Spec Tryd.prog 32 [s.v] [] (fun v M => ∃ g, v = .slice (some ⟨g, 0, none⟩) 8 8 ∧ M = [Blk g (.cells (nmL s).toArray 3)]) := by
  refine spec_of Tryd.func32 rfl rfl (Nat.le_of_ble_eq_true rfl) (fun w F => ?_)
  (refine hc_seq ?_; refine hc_lex ?_; refine hx_plain rfl ?_; (refine h_box rfl rfl rfl rfl rfl rfl (fun _ => ?_)); refine hx_plain rfl ?_; refine h_assign rfl rfl rfl rfl ?_; refine hx_nil ?_; refine hq_then ?_; refine hc_seq ?_; refine hc_lex ?_; refine hx_plain rfl ?_; refine h_fieldAddr0 rfl rfl FC.out rfl rfl ?_; refine hx_plain rfl ?_; refine h_load rfl rfl UC.out rfl .head rfl rfl rfl ?_; refine hx_plain rfl ?_; refine h_fieldAddr0 rfl rfl FC.out rfl rfl ?_; refine hx_plain rfl ?_; refine h_load rfl rfl UC.out rfl .head rfl rfl rfl ?_; refine hx_plain rfl ?_; refine h_fieldAddr0 rfl rfl FC.out rfl rfl ?_; refine hx_plain rfl ?_; refine h_load rfl rfl UC.out rfl .head rfl rfl rfl ?_; refine hx_plain rfl ?_; refine h_fieldAddr0 rfl rfl FC.out rfl rfl ?_; refine hx_plain rfl ?_; refine h_load rfl rfl UC.out rfl .head rfl rfl rfl ?_; refine hx_plain rfl ?_; refine h_fieldAddr0 rfl rfl FC.out rfl rfl ?_; refine hx_plain rfl ?_; refine h_load rfl rfl UC.out rfl .head rfl rfl rfl ?_; refine hx_plain rfl ?_; refine h_fieldAddr0 rfl rfl FC.out rfl rfl ?_; refine hx_plain rfl ?_; refine h_load rfl rfl UC.out rfl .head rfl rfl rfl ?_; refine hx_plain rfl ?_; refine h_fieldAddr0 rfl rfl FC.out rfl rfl ?_; refine hx_plain rfl ?_; refine h_load rfl rfl UC.out rfl .head rfl rfl rfl ?_; refine hx_plain rfl ?_; refine h_fieldAddr0 rfl rfl FC.out rfl rfl ?_; refine hx_plain rfl ?_; refine h_load rfl rfl UC.out rfl .head rfl rfl rfl ?_; refine hx_plain rfl ?_; (refine h_buildSliceB rfl rfl rfl UC.out IC.size IC.zero rfl rfl rfl (by omega) rfl rfl (fun _ => ?_)); refine hx_plain rfl ?_; refine h_assign rfl rfl rfl rfl ?_; refine hx_nil ?_; refine hq_then ?_; refine hc_ret ?_)
  rename_i b g
  exact hq_ret1 (.inr rfl) rfl rfl ⟨g, rfl, rfl⟩ (fun _ h => h.sub (.cons .head .nil))
abbrev lnL (s : Shp) : List Value := [.int .i64 1, .int .i64 1, .int .i64 s.j, .int .i64 (1 + 3 * s.k), .int .i64 1, .int .i64 ((s.i + 3) / 4), .int .i64 s.d]
theorem rlengths_spec {s : Shp} (h : okS s) : Spec Tryd.prog 34 [s.v] [] (fun v M => ∃ g, v = .slice (some ⟨g, 0, none⟩) 7 7 ∧ M = [Blk g (.cells (lnL s).toArray 3)]) := by
  obtain ⟨h0, h1, h2, h3, h4, h5, h6, h7⟩ := h
  refine spec_of Tryd.func34 rfl rfl (Nat.le_of_ble_eq_true rfl) (fun w F => ?_)
  (refine hc_seq ?_; refine hc_lex ?_; refine hx_plain rfl ?_; (refine h_box rfl rfl rfl rfl rfl rfl (fun _ => ?_)); refine hx_plain rfl ?_; refine h_assign rfl rfl rfl rfl ?_; refine hx_nil ?_; refine hq_then ?_; refine hc_seq ?_; refine hc_lex ?_; refine hx_plain rfl ?_; refine h_fieldAddr0 rfl rfl FC.out rfl rfl ?_; refine hx_plain rfl ?_; refine h_load rfl rfl UC.out rfl .head rfl rfl rfl ?_; refine hx_plain rfl ?_; refine h_fieldAddr0 rfl rfl FC.out rfl rfl ?_; refine hx_plain rfl ?_; refine h_load rfl rfl UC.out rfl .head rfl rfl rfl ?_; refine hx_plain rfl ?_; refine h_arithI rfl rfl rfl rfl (by omega) rfl rfl ?_; refine hx_plain rfl ?_; refine h_arithI rfl rfl rfl rfl (by omega) rfl rfl ?_; refine hx_plain rfl ?_; refine h_fieldAddr0 rfl rfl FC.out rfl rfl ?_; refine hx_plain rfl ?_; refine h_load rfl rfl UC.out rfl .head rfl rfl rfl ?_; refine hx_plain rfl ?_; refine h_arithI rfl rfl rfl rfl (by omega) rfl rfl ?_; refine hx_plain rfl ?_; refine h_quoI rfl rfl rfl (by omega) rfl rfl ?_; refine hx_plain rfl ?_; refine h_fieldAddr0 rfl rfl FC.out rfl rfl ?_; refine hx_plain rfl ?_; refine h_load rfl rfl UC.out rfl .head rfl rfl rfl ?_; refine hx_plain rfl ?_; (refine h_buildSliceB rfl rfl rfl UC.out IC.size IC.zero rfl rfl rfl (by omega) rfl rfl (fun _ => ?_)); refine hx_plain rfl ?_; refine h_assign rfl rfl rfl rfl ?_; refine hx_nil ?_; refine hq_then ?_; refine hc_ret ?_)
  rename_i b g
  exact hq_ret1 (.inr rfl) rfl rfl ⟨g, rfl, rfl⟩ (fun _ h => h.sub (.cons .head .nil))
theorem lnL_get (s : Shp) {r : Nat} (hr : r < 7) : (lnL s)[r]? = some (.int .i64 (stT s (r + 1) - stT s r)) := by
  have hto : (layR s).to = 2 + s.j + (1 + 3 * s.k) + 1 + (s.i + 3) / 4 + s.d := rfl
  obtain rfl | rfl | rfl | rfl | rfl | rfl | rfl : r = 0 ∨ r = 1 ∨ r = 2 ∨ r = 3 ∨ r = 4 ∨ r = 5 ∨ r = 6 := by omega
  all_goals (simp only [lnL, stT, List.getElem?_cons_zero, List.getElem?_cons_succ]; first | (congr 2; omega) | congr 2)
theorem stT_le {s : Shp} (h : okS s) (r : Nat) : 0 ≤ stT s r ∧ stT s r ≤ 100000 := by
  obtain ⟨h01, h3, h4, h5, h6, h7, h8, h9⟩ := h
  have hto : (layR s).to = 2 + s.j + (1 + 3 * s.k) + 1 + (s.i + 3) / 4 + s.d := rfl
  unfold stT
  split <;> omega
set_option maxHeartbeats 8000000 in
theorem rbegins_spec {s : Shp} (h : okS s) (r : Nat) (hr : r ≤ 7) : Spec0 Tryd.prog 33 [s.v, .int .i64 (r : Int)] (.int .i64 (stT s r)) := by
  refine spec_of Tryd.func33 rfl rfl (Nat.le_of_ble_eq_true rfl) (fun w F => ?_)
  (refine hc_seq ?_; refine hc_lex ?_; refine hx_plain rfl ?_; (refine h_box rfl rfl rfl rfl rfl rfl (fun _ => ?_)); refine hx_plain rfl ?_; refine h_assign rfl rfl rfl rfl ?_; refine hx_nil ?_; refine hq_then ?_; refine hc_seq ?_; refine hc_lex ?_; refine hx_plain rfl ?_; refine h_loadP rfl rfl UC.out rfl IC.size .head rfl rfl rfl rfl ?_; refine hx_plain rfl ?_)
  refine h_call rfl rfl rfl rfl rfl rfl rfl rfl EC.out .nil (rlengths_spec h) ?_
  rintro v M ⟨g, rfl, rfl⟩
  (refine hx_plain rfl ?_; refine h_assign rfl rfl rfl rfl ?_; refine hx_nil ?_; refine hq_then ?_; refine hc_seq ?_; refine hc_lex ?_; refine hx_plain rfl ?_; refine h_assign rfl rfl rfl rfl ?_; refine hx_nil ?_; refine hq_then ?_; refine hc_seq ?_; refine hc_seq ?_; refine hc_lex ?_; refine hx_plain rfl ?_; refine h_assign rfl rfl rfl rfl ?_; refine hx_nil ?_; refine hq_then ?_; refine hc_block ?_)
  refine hc_cut (id := 0) (Y := Unit) (fun _ => [(6, .int .i64 (stT s r))]) (fun _ => []) (fun _ => True) ?_ ?_
  · refine hc_loop (X := Nat) (fun i => [(1, .int .i64 (r : Int)), (5, .slice (some ⟨g, 0, none⟩) 7 7), (6, .int .i64 (stT s i)), (7, .int .i64 (i : Int))]) (fun _ => [Blk g (.cells (lnL s).toArray 3)]) (fun i => i ≤ r) (fun i => r - i) 0 (.cons rfl (.cons rfl (.cons rfl (.cons rfl .nil)))) (Nat.zero_le _) (fun _ h => h.sub (.cons .head .nil)) ?_
    intro i hi
    by_cases hlt : i < r
    · have h7 : i < 7 := by omega
      have g2 := lnL_get s h7
      have b1 := stT_le h i
      have b2 := stT_le h (i + 1)
      have k2 : nth (lnL s).toArray.toList (((i : Nat) : Int).toNat * 1) = some (.int .i64 (stT s (i + 1) - stT s i)) := by
        rw [nth_eq, Nat.mul_one]
        exact g2
      (refine hc_seq ?_; refine hc_seq ?_; refine hc_lex ?_; refine hx_plain rfl ?_; refine h_move rfl rfl rfl rfl ?_; refine hx_plain rfl ?_; refine h_move rfl rfl rfl rfl ?_; refine hx_plain rfl ?_; refine h_cmp rfl rfl rfl rfl rfl rfl ?_; refine hx_nil ?_; refine hq_then ?_; refine hc_condDT rfl (by omega) ?_; refine hc_skip ?_; refine hq_then ?_; refine hc_seq ?_; refine hc_block ?_; refine hc_lex ?_; refine hx_plain rfl ?_; refine h_move rfl rfl rfl rfl ?_; refine hx_plain rfl ?_; refine h_move rfl rfl rfl rfl ?_; refine hx_plain rfl ?_; refine h_move rfl rfl rfl rfl ?_; refine hx_plain rfl ?_; refine h_rowAddr rfl rfl rfl UC.out IC.size (by omega) (by omega) rfl rfl ?_; refine hx_plain rfl ?_)
      refine h_load (v := .int .i64 (stT s (i + 1) - stT s i)) rfl rfl UC.out rfl .head k2 rfl rfl ?_
      (refine hx_plain rfl ?_; refine h_arithI rfl rfl rfl rfl (by omega) rfl rfl ?_; refine hx_plain rfl ?_; refine h_assign rfl rfl rfl rfl ?_; refine hx_nil ?_; refine hq_norm_block ?_; refine hq_then ?_; refine hc_lex ?_; refine hx_plain rfl ?_; refine h_move rfl rfl rfl rfl ?_; refine hx_plain rfl ?_; refine h_arithI rfl rfl rfl rfl (by omega) rfl rfl ?_; refine hx_plain rfl ?_; refine h_assign rfl rfl rfl rfl ?_; refine hx_nil ?_)
      refine hq_round (i + 1) (by omega) (by omega) (.cons rfl (.cons rfl (.cons ?_ (.cons rfl .nil)))) (fun _ h => h)
      show some (Value.int .i64 (stT s i + (stT s (i + 1) - stT s i))) = some (Value.int .i64 (stT s (i + 1)))
      rw [show stT s i + (stT s (i + 1) - stT s i) = stT s (i + 1) by omega]
    · obtain rfl : i = r := by omega
      (refine hc_seq ?_; refine hc_seq ?_; refine hc_lex ?_; refine hx_plain rfl ?_; refine h_move rfl rfl rfl rfl ?_; refine hx_plain rfl ?_; refine h_move rfl rfl rfl rfl ?_; refine hx_plain rfl ?_; refine h_cmp rfl rfl rfl rfl rfl rfl ?_; refine hx_nil ?_; refine hq_then ?_; refine hc_condDF rfl (by omega) ?_; refine hc_exit ?_; refine hq_exit_then ?_; refine hq_exit_then ?_)
      exact hq_cut () trivial (.cons rfl .nil) (fun _ h => h.sub .nil)
  · rintro ⟨⟩ _
    (refine hq_exit_block ?_; refine hq_then ?_; refine hc_seq ?_; refine hc_lex ?_; refine hx_plain rfl ?_; refine h_move rfl rfl rfl rfl ?_; refine hx_plain rfl ?_; refine h_assign rfl rfl rfl rfl ?_; refine hx_nil ?_; refine hq_then ?_; refine hc_ret ?_)
    exact hq_ret1 (.inr rfl) rfl rfl ⟨rfl, rfl⟩ (fun _ h => h)
end Go.Proofs.YtmdkboojafbpcaaDoor
