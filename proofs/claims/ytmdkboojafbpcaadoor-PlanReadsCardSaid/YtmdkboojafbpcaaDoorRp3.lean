import Derived.Test.YtmdkboojafbpcaaDoorRp2
namespace Go.Proofs.YtmdkboojafbpcaaDoor
open Go Go.Proofs
set_option maxRecDepth 4000

theorem stL_T (s : Shp) {r : Nat} (h : r < 7) : (stL (layR s)).getD r 0 = stT s r := by
  obtain rfl | rfl | rfl | rfl | rfl | rfl | rfl : r = 0 ∨ r = 1 ∨ r = 2 ∨ r = 3 ∨ r = 4 ∨ r = 5 ∨ r = 6 := by omega
  all_goals rfl
set_option maxHeartbeats 8000000 in
theorem rwhere_spec (l : Lyt) (b : Int) (hb : -9223372036854775808 ≤ b ∧ b ≤ 9223372036854775807) :
    Spec0 Tryd.prog 28 [l.v, .int .i64 b] (.tuple #[.int .i64 (whereR l b).1, .int .i64 (whereR l b).2]) := by
  refine spec_of Tryd.func28 rfl rfl (Nat.le_of_ble_eq_true rfl) (fun w F => ?_)
  obtain ⟨pl, hpl⟩ : ∃ pl, planR l.s = pl := ⟨_, rfl⟩
  have hr := rplan_spec l.s
  rw [hpl] at hr
  obtain ⟨ly, er⟩ := pl
  have hno : ¬ (er = 0 ∧ ly = l ∧ 0 ≤ b ∧ b < l.to) → whereR l b = (0, 0) := fun h => if_neg (by rw [hpl]; exact h)
  (refine hc_seq ?_; refine hc_lex ?_; refine hx_plain rfl ?_; (refine h_box rfl rfl rfl rfl rfl rfl (fun _ => ?_)); refine hx_plain rfl ?_; refine h_assign rfl rfl rfl rfl ?_; refine hx_plain rfl ?_; refine h_assign rfl rfl rfl rfl ?_; refine hx_nil ?_; refine hq_then ?_; refine hc_seq ?_; refine hc_lex ?_; refine hx_plain rfl ?_; refine h_fieldAddr0 rfl rfl FC.out rfl rfl ?_; refine hx_plain rfl ?_; refine h_loadP rfl rfl UC.out rfl IC.size .head rfl rfl rfl rfl ?_; refine hx_plain rfl ?_)
  refine h_callR rfl rfl rfl rfl rfl rfl EC.out (hr.reads _) ?_
  dsimp only
  (refine hx_plain rfl ?_; refine h_move rfl rfl rfl rfl ?_; refine hx_plain rfl ?_; refine h_extract rfl rfl rfl rfl rfl ?_; refine hx_plain rfl ?_; refine h_extract rfl rfl rfl rfl rfl ?_; refine hx_plain rfl ?_; (refine h_alloc rfl rfl IC.zero rfl rfl rfl (fun _ => ?_)); refine hx_plain rfl ?_; refine h_storeAll rfl rfl rfl rfl rfl rfl IC.size .head rfl rfl rfl (List.all_eq_true.1 rfl) ?_; refine hx_plain rfl ?_; refine h_assign rfl rfl rfl rfl ?_; refine hx_nil ?_; refine hq_then ?_; refine hc_seq ?_; refine hc_lex ?_; refine hx_plain rfl ?_; refine h_loadP rfl rfl UC.out rfl IC.size .head rfl rfl rfl rfl ?_; refine hx_plain rfl ?_; refine h_loadP rfl rfl UC.out rfl IC.size (.tail .head) rfl rfl rfl rfl ?_; refine hx_plain rfl ?_)
  refine h_callR rfl rfl rfl rfl rfl rfl EC.out ((sameLayout_spec ly l).reads _) ?_
  (refine hx_plain rfl ?_; refine h_assign rfl rfl rfl rfl ?_; refine hx_nil ?_; refine hq_then ?_; refine hc_seq ?_; refine hc_seq ?_; refine hc_lex ?_; refine hx_plain rfl ?_; refine h_move rfl rfl rfl rfl ?_; refine hx_plain rfl ?_; refine h_cmp rfl rfl rfl rfl rfl rfl ?_; refine hx_plain rfl ?_; refine h_move rfl rfl rfl rfl ?_; refine hx_gcaseD rfl rfl rfl (fun hc => ?_) (fun hc => ?_); refine hx_skip rfl rfl rfl rfl rfl rfl ?_; refine hx_skip rfl rfl rfl rfl rfl rfl ?_; refine hx_plain rfl ?_; refine h_pickT rfl rfl rfl rfl rfl ?_; refine hx_plain rfl ?_; refine h_move rfl rfl rfl rfl ?_; refine hx_skip rfl rfl rfl rfl rfl rfl ?_; refine hx_skip rfl rfl rfl rfl rfl rfl ?_; refine hx_plain rfl ?_; refine h_pickT rfl rfl rfl rfl rfl ?_; refine hx_plain rfl ?_; refine h_move rfl rfl rfl rfl ?_; refine hx_skip rfl rfl rfl rfl rfl rfl ?_; refine hx_skip rfl rfl rfl rfl rfl rfl ?_; refine hx_skip rfl rfl rfl rfl rfl rfl ?_; refine hx_skip rfl rfl rfl rfl rfl rfl ?_; refine hx_plain rfl ?_; refine h_pickT rfl rfl rfl rfl rfl ?_; refine hx_nil ?_; refine hq_then ?_; refine hc_condT rfl ?_; refine hc_seq ?_; refine hc_lex ?_; refine hx_plain rfl ?_; refine h_assign rfl rfl rfl rfl ?_; refine hx_plain rfl ?_; refine h_assign rfl rfl rfl rfl ?_; refine hx_nil ?_; refine hq_then ?_; refine hc_ret ?_; refine hq_ret_then ?_; rotate_left; refine hx_yes rfl rfl rfl ?_; refine h_move rfl rfl rfl rfl ?_; refine hx_yes rfl rfl rfl ?_; refine h_not rfl rfl rfl rfl ?_; refine hx_plain rfl ?_; refine h_pickF rfl rfl rfl rfl rfl ?_; refine hx_plain rfl ?_; refine h_move rfl rfl rfl rfl ?_; refine hx_gcase rfl rfl rfl (fun hc => ?_) (fun hc => ?_); refine hx_skip rfl rfl rfl rfl rfl rfl ?_; refine hx_skip rfl rfl rfl rfl rfl rfl ?_; refine hx_plain rfl ?_; refine h_pickT rfl rfl rfl rfl rfl ?_; refine hx_plain rfl ?_; refine h_move rfl rfl rfl rfl ?_; refine hx_skip rfl rfl rfl rfl rfl rfl ?_; refine hx_skip rfl rfl rfl rfl rfl rfl ?_; refine hx_skip rfl rfl rfl rfl rfl rfl ?_; refine hx_skip rfl rfl rfl rfl rfl rfl ?_; refine hx_plain rfl ?_; refine h_pickT rfl rfl rfl rfl rfl ?_; refine hx_nil ?_; refine hq_then ?_; refine hc_condT rfl ?_; refine hc_seq ?_; refine hc_lex ?_; refine hx_plain rfl ?_; refine h_assign rfl rfl rfl rfl ?_; refine hx_plain rfl ?_; refine h_assign rfl rfl rfl rfl ?_; refine hx_nil ?_; refine hq_then ?_; refine hc_ret ?_; refine hq_ret_then ?_; rotate_left; refine hx_yes rfl rfl rfl ?_; refine h_move rfl rfl rfl rfl ?_; refine hx_yes rfl rfl rfl ?_; refine h_cmp rfl rfl rfl rfl rfl rfl ?_; refine hx_plain rfl ?_; refine h_pickF rfl rfl rfl rfl rfl ?_; refine hx_plain rfl ?_; refine h_move rfl rfl rfl rfl ?_; refine hx_gcaseD rfl rfl rfl (fun hc => ?_) (fun hc => ?_); refine hx_skip rfl rfl rfl rfl rfl rfl ?_; refine hx_skip rfl rfl rfl rfl rfl rfl ?_; refine hx_skip rfl rfl rfl rfl rfl rfl ?_; refine hx_skip rfl rfl rfl rfl rfl rfl ?_; refine hx_plain rfl ?_; refine h_pickT rfl rfl rfl rfl rfl ?_; refine hx_nil ?_; refine hq_then ?_; refine hc_condT rfl ?_; refine hc_seq ?_; refine hc_lex ?_; refine hx_plain rfl ?_; refine h_assign rfl rfl rfl rfl ?_; refine hx_plain rfl ?_; refine h_assign rfl rfl rfl rfl ?_; refine hx_nil ?_; refine hq_then ?_; refine hc_ret ?_; refine hq_ret_then ?_; rotate_left; refine hx_yes rfl rfl rfl ?_; refine h_move rfl rfl rfl rfl ?_; refine hx_yes rfl rfl rfl ?_; refine h_fieldAddr0 rfl rfl FC.out rfl rfl ?_; refine hx_yes rfl rfl rfl ?_; refine h_load rfl rfl UC.out rfl (.tail .head) rfl rfl rfl ?_; refine hx_yes rfl rfl rfl ?_; refine h_cmp rfl rfl rfl rfl rfl rfl ?_; refine hx_plain rfl ?_; refine h_pickF rfl rfl rfl rfl rfl ?_; refine hx_nil ?_; refine hq_then ?_; refine hc_condD rfl (fun hc => ?_) (fun hc => ?_); refine hc_seq ?_; refine hc_lex ?_; refine hx_plain rfl ?_; refine h_assign rfl rfl rfl rfl ?_; refine hx_plain rfl ?_; refine h_assign rfl rfl rfl rfl ?_; refine hx_nil ?_; refine hq_then ?_; refine hc_ret ?_; refine hq_ret_then ?_; rotate_left; refine hc_skip ?_; refine hq_then ?_; refine hc_seq ?_; refine hc_lex ?_; refine hx_plain rfl ?_; refine h_assign rfl rfl rfl rfl ?_; refine hx_nil ?_; refine hq_then ?_; refine hc_seq ?_; refine hc_block ?_; rotate_left)
  · rw [hno (fun h => hc h.1)]
    exact hq_R2 (.inr rfl) rfl (rv_tmp rfl) (rv_tmp rfl) ⟨rfl, rfl⟩ (fun _ h => h.sub .nil)
  · rw [hno (fun h => by rw [decide_eq_true h.2.1] at hc; cases hc)]
    exact hq_R2 (.inr rfl) rfl (rv_tmp rfl) (rv_tmp rfl) ⟨rfl, rfl⟩ (fun _ h => h.sub .nil)
  · rw [hno (fun h => by omega)]
    exact hq_R2 (.inr rfl) rfl (rv_tmp rfl) (rv_tmp rfl) ⟨rfl, rfl⟩ (fun _ h => h.sub .nil)
  · rw [hno (fun h => by omega)]
    exact hq_R2 (.inr rfl) rfl (rv_tmp rfl) (rv_tmp rfl) ⟨rfl, rfl⟩ (fun _ h => h.sub .nil)
  rename_i bp bl h2 h3 h4
  have her : er = 0 := Classical.not_not.1 h2
  have hl : ly = l := by
    by_cases h : ly = l
    · exact h
    · rw [decide_eq_false h] at h3
      cases h3
  subst her hl
  obtain ⟨hok, hly, _, htot⟩ := planR_ok hpl
  have hpl2 : planR ly.s = (layR ly.s, 0) := by rw [hpl, ← hly]
  have hto : (layR ly.s).to = ly.to := by rw [← hly]
  obtain ⟨s, hs⟩ : ∃ z, ly.s = z := ⟨_, rfl⟩
  rw [hs] at hok hly hpl2 hto
  have hsl : ly.s.v = s.v := by rw [hs]
  refine hc_cut (id := 0) (Y := Nat) (fun r => [(1, .int .i64 b), (2, .pointer (some ⟨bp, 0, none⟩)), (9, .int .i64 (r : Int))]) (fun _ => [Blk bp (.cells ly.v.cells 26)]) (fun r => r ≤ 6 ∧ stT s r ≤ b ∧ b < stT s (r + 1)) ?_ ?_
  · refine hc_loop (X := Nat) (fun r => [(1, .int .i64 b), (2, .pointer (some ⟨bp, 0, none⟩)), (9, .int .i64 (r : Int))]) (fun _ => [Blk bp (.cells ly.v.cells 26)]) (fun r => r ≤ 6 ∧ b < stT s (r + 1)) (fun r => r) 6 (.cons rfl (.cons rfl (.cons rfl .nil))) ⟨Nat.le_refl _, by show b < (layR s).to; omega⟩ (fun _ h => h.sub (.cons (.tail .head) .nil)) ?_
    rintro r ⟨hr, hb1⟩
    have hbe := rbegins_spec hok r (by omega)
    rw [← hs] at hbe
    (refine hc_seq ?_; refine hc_seq ?_; refine hc_lex ?_; refine hx_plain rfl ?_; refine h_fieldAddr0 rfl rfl FC.out rfl rfl ?_; refine hx_plain rfl ?_; refine h_loadP rfl rfl UC.out rfl IC.size .head rfl rfl rfl rfl ?_; refine hx_plain rfl ?_; refine h_move rfl rfl rfl rfl ?_; refine hx_plain rfl ?_)
    refine h_callR rfl rfl rfl rfl rfl rfl EC.out (hbe.reads _) ?_
    rw [hs]
    (refine hx_plain rfl ?_; refine h_move rfl rfl rfl rfl ?_; refine hx_plain rfl ?_; refine h_cmp rfl rfl rfl rfl rfl rfl ?_; refine hx_nil ?_; refine hq_then ?_; refine hc_condD rfl (fun hc => ?_) (fun hc => ?_); refine hc_skip ?_; refine hq_then ?_; refine hc_block ?_; refine hc_lex ?_; refine hx_plain rfl ?_; refine h_move rfl rfl rfl rfl ?_; refine hx_plain rfl ?_; refine h_arithI rfl rfl rfl rfl (by omega) rfl rfl ?_; refine hx_plain rfl ?_; refine h_assign rfl rfl rfl rfl ?_; refine hx_nil ?_; refine hq_norm_block ?_; rotate_left; refine hc_exit ?_; refine hq_exit_then ?_; refine hq_exit_then ?_; rotate_left)
    · obtain ⟨k, rfl⟩ : ∃ k, r = k + 1 := by
        cases r with
        | zero =>
          have e0 : stT s 0 = 0 := rfl
          rw [e0] at hc
          omega
        | succ k => exact ⟨k, rfl⟩
      refine hq_round k (by omega) ⟨by omega, hc⟩ (.cons rfl (.cons rfl (.cons ?_ .nil))) (fun _ h => h)
      show some (Value.int .i64 (((k + 1 : Nat) : Int) - 1)) = some (Value.int .i64 (k : Int))
      rw [show ((k + 1 : Nat) : Int) - 1 = (k : Int) by omega]
    · exact hq_cut r ⟨hr, by omega, hb1⟩ (.cons rfl (.cons rfl (.cons rfl .nil))) (fun _ h => h)
  · rintro r ⟨hr, hb0, hb1⟩
    have hbe := rbegins_spec hok r (by omega)
    rw [← hs] at hbe
    have hwh := where_in hpl2 (r := r) (by omega) hb0 hb1
    rw [← hly] at hwh
    have hle := stT_le hok r
    rw [hwh]
    (refine hq_exit_block ?_; refine hq_then ?_; refine hc_seq ?_; refine hc_lex ?_; refine hx_plain rfl ?_; refine h_move rfl rfl rfl rfl ?_; refine hx_plain rfl ?_; refine h_arithI rfl rfl rfl rfl (by omega) rfl rfl ?_; refine hx_plain rfl ?_; refine h_move rfl rfl rfl rfl ?_; refine hx_plain rfl ?_; refine h_fieldAddr0 rfl rfl FC.out rfl rfl ?_; refine hx_plain rfl ?_; refine h_loadP rfl rfl UC.out rfl IC.size .head rfl rfl rfl rfl ?_; refine hx_plain rfl ?_; refine h_move rfl rfl rfl rfl ?_; refine hx_plain rfl ?_)
    refine h_callR rfl rfl rfl rfl rfl rfl EC.out (hbe.reads _) ?_
    rw [hs]
    (refine hx_plain rfl ?_; refine h_arithI rfl rfl rfl rfl (by omega) rfl rfl ?_; refine hx_plain rfl ?_; refine h_assign rfl rfl rfl rfl ?_; refine hx_plain rfl ?_; refine h_assign rfl rfl rfl rfl ?_; refine hx_nil ?_; refine hq_then ?_; refine hc_ret ?_)
    exact hq_R2 (.inr rfl) rfl (rv_tmp rfl) (rv_tmp rfl) ⟨rfl, rfl⟩ (fun _ h => h.sub .nil)
end Go.Proofs.YtmdkboojafbpcaaDoor
