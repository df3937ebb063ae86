import Derived.Test.YtmdkboojafbpcaaDoorPl8
namespace Go.Proofs.YtmdkboojafbpcaaDoor
open Go Go.Proofs
set_option maxRecDepth 4000

/-- Where the regions of a layout begin; the last is the end. -/
def stT (s : Shp) (r : Nat) : Int := match r with
  | 0 => 0
  | 1 => 1
  | 2 => 2
  | 3 => 2 + s.j
  | 4 => 2 + s.j + (1 + 3 * s.k)
  | 5 => 2 + s.j + (1 + 3 * s.k) + 1
  | 6 => 2 + s.j + (1 + 3 * s.k) + 1 + (s.i + 3) / 4
  | _ => (layR s).to
theorem where_in {s : Shp} (hp : planR s = (layR s, 0)) {r : Nat} (hr : r < 7) {b : Int} (h1 : stT s r ≤ b) (h2 : b < stT s (r + 1)) : whereR (layR s) b = ((r : Int) + 1, b - stT s r) := by
  obtain ⟨⟨h01, h3, h4, h5, h6, h7, h8, h9⟩, _, hroom, htot⟩ := planR_ok hp
  have hto : (layR s).to = 2 + s.j + (1 + 3 * s.k) + 1 + (s.i + 3) / 4 + s.d := rfl
  unfold whereR
  have e0 : (layR s).s = s := rfl
  obtain rfl | rfl | rfl | rfl | rfl | rfl | rfl : r = 0 ∨ r = 1 ∨ r = 2 ∨ r = 3 ∨ r = 4 ∨ r = 5 ∨ r = 6 := by omega
  all_goals (
    simp only [stT] at h1 h2 ⊢
    rw [if_pos ⟨by rw [e0, hp], by rw [e0, hp], by omega, by omega⟩])
  all_goals (simp only [regN, stL, layR, List.getD_cons_zero, List.getD_cons_succ]; repeat rw [if_neg (by omega)])
  all_goals first | rw [if_pos (by omega)] | skip
  all_goals rfl
theorem where_out {l : Lyt} {b : Int} (h : b < 0 ∨ l.to ≤ b) : whereR l b = (0, 0) := if_neg (fun h1 => by omega)
theorem stT_in {s : Shp} (h : okS s) (r : Nat) (hr : r < 7) : stT s r < stT s (r + 1) ∧ 0 ≤ stT s r ∧ stT s (r + 1) ≤ (layR s).to := by
  obtain ⟨h01, h3, h4, h5, h6, h7, h8, h9⟩ := h
  have hto : (layR s).to = 2 + s.j + (1 + 3 * s.k) + 1 + (s.i + 3) / 4 + s.d := rfl
  obtain rfl | rfl | rfl | rfl | rfl | rfl | rfl : r = 0 ∨ r = 1 ∨ r = 2 ∨ r = 3 ∨ r = 4 ∨ r = 5 ∨ r = 6 := by omega
  all_goals (simp only [stT]; omega)
abbrev bgn (s : Shp) : List Value := [.int .i64 0, .int .i64 (layR s).b, .int .i64 (layR s).jo, .int .i64 (layR s).le, .int .i64 (layR s).bi, .int .i64 (layR s).ta, .int .i64 (layR s).da]
abbrev szs (s : Shp) : List Value := [.int .i64 1, .int .i64 1, .int .i64 (layR s).jl, .int .i64 (layR s).ll, .int .i64 (layR s).bl, .int .i64 (layR s).tl, .int .i64 (layR s).dl]
theorem bgn_get (s : Shp) {r : Nat} (hr : r < 7) : (bgn s)[r]? = some (.int .i64 (stT s r)) := by
  obtain rfl | rfl | rfl | rfl | rfl | rfl | rfl : r = 0 ∨ r = 1 ∨ r = 2 ∨ r = 3 ∨ r = 4 ∨ r = 5 ∨ r = 6 := by omega
  all_goals rfl
theorem szs_get (s : Shp) {r : Nat} (hr : r < 7) : (szs s)[r]? = some (.int .i64 (stT s (r + 1) - stT s r)) := by
  have hto : (layR s).to = 2 + s.j + (1 + 3 * s.k) + 1 + (s.i + 3) / 4 + s.d := rfl
  obtain rfl | rfl | rfl | rfl | rfl | rfl | rfl : r = 0 ∨ r = 1 ∨ r = 2 ∨ r = 3 ∨ r = 4 ∨ r = 5 ∨ r = 6 := by omega
  all_goals (simp only [szs, stT, layR, List.getElem?_cons_zero, List.getElem?_cons_succ]; first | (congr 2; omega) | congr 2)
set_option maxHeartbeats 8000000 in
theorem covers_law {w : World} (hw : CelAt 0 bndL w) (s : Shp) : Calls Tryd.prog 10 [s.v].toArray w (fun en w' => en = .returned (.bool true) ∧ But w w' nowhere) := by
  refine Makes.reads (makes_of Tryd.func10 rfl rfl (Nat.le_of_ble_eq_true rfl) ?_)
  obtain ⟨pl, hpl⟩ : ∃ pl, planR s = pl := ⟨_, rfl⟩
  obtain ⟨ly, er⟩ := pl
  (refine hc_seq ?_; refine hc_lex ?_; refine hx_plain rfl ?_; (refine h_box rfl rfl rfl rfl rfl rfl (fun _ => ?_)); refine hx_plain rfl ?_; refine h_assign rfl rfl rfl rfl ?_; refine hx_nil ?_; refine hq_then ?_; refine hc_seq ?_; refine hc_lex ?_; refine hx_plain rfl ?_)
  refine h_callRd rfl rfl rfl rfl rfl rfl EC.out (fun w' h => first_reads (h.celAt hw)) ?_
  (refine hx_plain rfl ?_; refine h_assign rfl rfl rfl rfl ?_; refine hx_nil ?_; refine hq_then ?_; refine hc_seq ?_; refine hc_seq ?_; refine hc_lex ?_; refine hx_plain rfl ?_; refine h_move rfl rfl rfl rfl ?_; refine hx_plain rfl ?_; refine h_not rfl rfl rfl rfl ?_; refine hx_nil ?_; refine hq_then ?_; refine hc_condF rfl ?_; refine hc_skip ?_; refine hq_then ?_; refine hc_seq ?_; refine hc_lex ?_; refine hx_plain rfl ?_; refine h_loadP rfl rfl UC.out rfl IC.size .head rfl rfl rfl rfl ?_; refine hx_plain rfl ?_)
  refine h_callRd rfl rfl rfl rfl rfl rfl EC.out (fun w' h => plan_makes (h.celAt hw) s) ?_
  rw [hpl]
  dsimp only
  (refine hx_plain rfl ?_; refine h_move rfl rfl rfl rfl ?_; refine hx_plain rfl ?_; refine h_extract rfl rfl rfl rfl rfl ?_; refine hx_plain rfl ?_; refine h_extract rfl rfl rfl rfl rfl ?_; refine hx_plain rfl ?_; (refine h_alloc rfl rfl IC.zero rfl rfl rfl (fun _ => ?_)); refine hx_plain rfl ?_; refine h_storeAll rfl rfl rfl rfl rfl rfl IC.size .head rfl rfl rfl (List.all_eq_true.1 rfl) ?_; refine hx_plain rfl ?_; refine h_assign rfl rfl rfl rfl ?_; refine hx_nil ?_; refine hq_then ?_; refine hc_seq ?_; refine hc_seq ?_; refine hc_lex ?_; refine hx_plain rfl ?_; refine h_move rfl rfl rfl rfl ?_; refine hx_plain rfl ?_)
  refine h_callR rfl rfl rfl rfl rfl rfl EC.out ((num_spec er).reads _) ?_
  by_cases her : er = 0
  · subst her
    obtain ⟨hok, rfl, hroom, htot⟩ := planR_ok hpl
    (refine hx_plain rfl ?_; refine h_cmp rfl rfl rfl rfl rfl rfl ?_; refine hx_nil ?_; refine hq_then ?_; refine hc_condF rfl ?_; refine hc_skip ?_; refine hq_then ?_; refine hc_seq ?_; refine hc_lex ?_; refine hx_plain rfl ?_; refine h_fieldAddr0 rfl rfl FC.out rfl rfl ?_; refine hx_plain rfl ?_; refine h_load rfl rfl UC.out rfl .head rfl rfl rfl ?_; refine hx_plain rfl ?_; refine h_fieldAddr0 rfl rfl FC.out rfl rfl ?_; refine hx_plain rfl ?_; refine h_load rfl rfl UC.out rfl .head rfl rfl rfl ?_; refine hx_plain rfl ?_; refine h_fieldAddr0 rfl rfl FC.out rfl rfl ?_; refine hx_plain rfl ?_; refine h_load rfl rfl UC.out rfl .head rfl rfl rfl ?_; refine hx_plain rfl ?_; refine h_fieldAddr0 rfl rfl FC.out rfl rfl ?_; refine hx_plain rfl ?_; refine h_load rfl rfl UC.out rfl .head rfl rfl rfl ?_; refine hx_plain rfl ?_; refine h_fieldAddr0 rfl rfl FC.out rfl rfl ?_; refine hx_plain rfl ?_; refine h_load rfl rfl UC.out rfl .head rfl rfl rfl ?_; refine hx_plain rfl ?_; refine h_fieldAddr0 rfl rfl FC.out rfl rfl ?_; refine hx_plain rfl ?_; refine h_load rfl rfl UC.out rfl .head rfl rfl rfl ?_; refine hx_plain rfl ?_; (refine h_buildSliceB rfl rfl rfl UC.out IC.size IC.zero rfl rfl rfl (by omega) rfl rfl (fun _ => ?_)); refine hx_plain rfl ?_; refine h_assign rfl rfl rfl rfl ?_; refine hx_nil ?_; refine hq_then ?_; refine hc_seq ?_; refine hc_lex ?_; refine hx_plain rfl ?_; refine h_fieldAddr0 rfl rfl FC.out rfl rfl ?_; refine hx_plain rfl ?_; refine h_load rfl rfl UC.out rfl (.tail .head) rfl rfl rfl ?_; refine hx_plain rfl ?_; refine h_fieldAddr0 rfl rfl FC.out rfl rfl ?_; refine hx_plain rfl ?_; refine h_load rfl rfl UC.out rfl (.tail .head) rfl rfl rfl ?_; refine hx_plain rfl ?_; refine h_fieldAddr0 rfl rfl FC.out rfl rfl ?_; refine hx_plain rfl ?_; refine h_load rfl rfl UC.out rfl (.tail .head) rfl rfl rfl ?_; refine hx_plain rfl ?_; refine h_fieldAddr0 rfl rfl FC.out rfl rfl ?_; refine hx_plain rfl ?_; refine h_load rfl rfl UC.out rfl (.tail .head) rfl rfl rfl ?_; refine hx_plain rfl ?_; refine h_fieldAddr0 rfl rfl FC.out rfl rfl ?_; refine hx_plain rfl ?_; refine h_load rfl rfl UC.out rfl (.tail .head) rfl rfl rfl ?_; refine hx_plain rfl ?_; (refine h_buildSliceB rfl rfl rfl UC.out IC.size IC.zero rfl rfl rfl (by omega) rfl rfl (fun _ => ?_)); refine hx_plain rfl ?_; refine h_assign rfl rfl rfl rfl ?_; refine hx_nil ?_; refine hq_then ?_; refine hc_seq ?_; refine hc_lex ?_; refine hx_plain rfl ?_; refine h_assign rfl rfl rfl rfl ?_; refine hx_nil ?_; refine hq_then ?_; refine hc_seq ?_; refine hc_seq ?_; refine hc_lex ?_; refine hx_plain rfl ?_; refine h_assign rfl rfl rfl rfl ?_; refine hx_nil ?_; refine hq_then ?_; refine hc_block ?_)
    rename_i bs bl gB gS
    refine hc_cut (id := 0) (Y := Unit) (fun _ => [(4, .pointer (some ⟨bl, 0, none⟩)), (8, .int .i64 (layR s).to)]) (fun _ => [Blk bl (.cells (layR s).cs 26)]) (fun _ => True) ?_ ?_
    · refine hc_loop (X := Nat) (fun r => [(4, .pointer (some ⟨bl, 0, none⟩)), (6, .slice (some ⟨gB, 0, none⟩) 7 7), (7, .slice (some ⟨gS, 0, none⟩) 7 7), (8, .int .i64 (stT s r)), (9, .int .i64 (r : Int))]) (fun _ => [Blk bl (.cells (layR s).cs 26), Blk gB (.cells (bgn s).toArray 3), Blk gS (.cells (szs s).toArray 3)]) (fun r => r ≤ 7) (fun r => 7 - r) 0 (.cons rfl (.cons rfl (.cons rfl (.cons rfl (.cons rfl .nil))))) (Nat.zero_le _) (fun _ h => h.sub (.cons (.tail (.tail .head)) (.cons (.tail .head) (.cons .head .nil)))) ?_
      intro r hr
      by_cases hlt : r < 7
      · have g1 := bgn_get s hlt
        have g2 := szs_get s hlt
        obtain ⟨i1, i2, i3⟩ := stT_in hok r hlt
        have k1 : nth (bgn s).toArray.toList (((r : Nat) : Int).toNat * 1) = some (.int .i64 (stT s r)) := by
          rw [nth_eq, Nat.mul_one]
          exact g1
        have k2 : nth (szs s).toArray.toList (((r : Nat) : Int).toNat * 1) = some (.int .i64 (stT s (r + 1) - stT s r)) := by
          rw [nth_eq, Nat.mul_one]
          exact g2
        (refine hc_seq ?_; refine hc_seq ?_; refine hc_lex ?_; refine hx_plain rfl ?_; refine h_move rfl rfl rfl rfl ?_; refine hx_plain rfl ?_; refine h_cmp rfl rfl rfl rfl rfl rfl ?_; refine hx_nil ?_; refine hq_then ?_; refine hc_condDT rfl (by omega) ?_; refine hc_skip ?_; refine hq_then ?_; refine hc_seq ?_; refine hc_block ?_; refine hc_seq ?_; refine hc_seq ?_; refine hc_lex ?_; refine hx_plain rfl ?_; refine h_move rfl rfl rfl rfl ?_; refine hx_plain rfl ?_; refine h_move rfl rfl rfl rfl ?_; refine hx_plain rfl ?_; refine h_rowAddr rfl rfl rfl UC.out IC.size (by omega) (by omega) rfl rfl ?_; refine hx_plain rfl ?_)
        refine h_load (v := .int .i64 (stT s r)) rfl rfl UC.out rfl (.tail .head) k1 rfl rfl ?_
        (refine hx_plain rfl ?_; refine h_move rfl rfl rfl rfl ?_; refine hx_plain rfl ?_; refine h_cmp rfl rfl rfl rfl rfl rfl ?_; refine hx_plain rfl ?_; refine h_move rfl rfl rfl rfl ?_; refine hx_gF rfl rfl rfl (by omega) ?_; refine hx_yes rfl rfl rfl ?_; refine h_move rfl rfl rfl rfl ?_; refine hx_yes rfl rfl rfl ?_; refine h_move rfl rfl rfl rfl ?_; refine hx_yes rfl rfl rfl ?_; refine h_rowAddr rfl rfl rfl UC.out IC.size (by omega) (by omega) rfl rfl ?_; refine hx_yes rfl rfl rfl ?_)
        refine h_load (v := .int .i64 (stT s (r + 1) - stT s r)) rfl rfl UC.out rfl (.tail (.tail .head)) k2 rfl rfl ?_
        (refine hx_yes rfl rfl rfl ?_; refine h_cmp rfl rfl rfl rfl rfl rfl ?_; refine hx_plain rfl ?_; refine h_pickF rfl rfl rfl rfl rfl ?_; refine hx_nil ?_; refine hq_then ?_; refine hc_condDF rfl (by omega) ?_; refine hc_skip ?_; refine hq_then ?_; refine hc_seq ?_; refine hc_lex ?_; refine hx_plain rfl ?_; refine h_assign rfl rfl rfl rfl ?_; refine hx_nil ?_; refine hq_then ?_; refine hc_block ?_)
        refine hc_cut (id := 2) (Y := Unit) (fun _ => [(4, .pointer (some ⟨bl, 0, none⟩)), (6, .slice (some ⟨gB, 0, none⟩) 7 7), (7, .slice (some ⟨gS, 0, none⟩) 7 7), (8, .int .i64 (stT s (r + 1))), (9, .int .i64 (r : Int))]) (fun _ => [Blk bl (.cells (layR s).cs 26), Blk gB (.cells (bgn s).toArray 3), Blk gS (.cells (szs s).toArray 3)]) (fun _ => True) ?_ ?_
        · refine hc_loop (X := Nat) (fun i => [(4, .pointer (some ⟨bl, 0, none⟩)), (6, .slice (some ⟨gB, 0, none⟩) 7 7), (7, .slice (some ⟨gS, 0, none⟩) 7 7), (8, .int .i64 (stT s r + i)), (9, .int .i64 (r : Int)), (10, .int .i64 (i : Int))]) (fun _ => [Blk bl (.cells (layR s).cs 26), Blk gB (.cells (bgn s).toArray 3), Blk gS (.cells (szs s).toArray 3)]) (fun i => (i : Int) ≤ stT s (r + 1) - stT s r) (fun i => (stT s (r + 1) - stT s r).toNat - i) 0 (.cons rfl (.cons rfl (.cons rfl (.cons (by show _ = some (Value.int .i64 (stT s r + 0)); rw [Int.add_zero]; rfl) (.cons rfl (.cons rfl .nil)))))) (by show ((0 : Nat) : Int) ≤ _; omega) (fun _ h => h) ?_
          intro i hi
          by_cases hil : (i : Int) < stT s (r + 1) - stT s r
          · have hwh := where_in (b := stT s r + i) hpl hlt (by omega) (by omega)
            have e2 : stT s r + i - stT s r = i := by omega
            rw [e2] at hwh
            (refine hc_seq ?_; refine hc_seq ?_; refine hc_lex ?_; refine hx_plain rfl ?_; refine h_move rfl rfl rfl rfl ?_; refine hx_plain rfl ?_; refine h_move rfl rfl rfl rfl ?_; refine hx_plain rfl ?_; refine h_move rfl rfl rfl rfl ?_; refine hx_plain rfl ?_; refine h_rowAddr rfl rfl rfl UC.out IC.size (by omega) (by omega) rfl rfl ?_; refine hx_plain rfl ?_)
            refine h_load (v := .int .i64 (stT s (r + 1) - stT s r)) rfl rfl UC.out rfl (.tail (.tail .head)) k2 rfl rfl ?_
            (refine hx_plain rfl ?_; refine h_cmp rfl rfl rfl rfl rfl rfl ?_; refine hx_plain rfl ?_; refine h_move rfl rfl rfl rfl ?_; refine hx_gT rfl rfl rfl (by omega) ?_; refine hx_yes rfl rfl rfl ?_; refine h_move rfl rfl rfl rfl ?_; refine hx_yes rfl rfl rfl ?_; refine h_cmp rfl rfl rfl rfl rfl rfl ?_; refine hx_plain rfl ?_; refine h_pickT rfl rfl rfl rfl rfl ?_; refine hx_nil ?_; refine hq_then ?_; refine hc_condDT rfl (by omega) ?_; refine hc_skip ?_; refine hq_then ?_; refine hc_seq ?_; refine hc_block ?_; refine hc_seq ?_; refine hc_lex ?_; refine hx_plain rfl ?_; refine h_loadP rfl rfl UC.out rfl IC.size .head rfl rfl rfl rfl ?_; refine hx_plain rfl ?_; refine h_move rfl rfl rfl rfl ?_; refine hx_plain rfl ?_)
            refine h_callRd rfl rfl rfl rfl rfl rfl EC.out (fun w' h => where_reads (h.celAt hw) (layR s) (stT s r + i) (by omega)) ?_
            rw [hwh]
            dsimp only
            (refine hx_plain rfl ?_; refine h_move rfl rfl rfl rfl ?_; refine hx_plain rfl ?_; refine h_extract rfl rfl rfl rfl rfl ?_; refine hx_plain rfl ?_; refine h_extract rfl rfl rfl rfl rfl ?_; refine hx_plain rfl ?_; refine h_assign rfl rfl rfl rfl ?_; refine hx_plain rfl ?_; refine h_assign rfl rfl rfl rfl ?_; refine hx_nil ?_; refine hq_then ?_; refine hc_seq ?_; refine hc_seq ?_; refine hc_lex ?_; refine hx_plain rfl ?_; refine h_move rfl rfl rfl rfl ?_; refine hx_plain rfl ?_; refine h_move rfl rfl rfl rfl ?_; refine hx_plain rfl ?_; refine h_arithI rfl rfl rfl rfl (by omega) rfl rfl ?_; refine hx_plain rfl ?_; refine h_cmp rfl rfl rfl rfl rfl rfl ?_; refine hx_plain rfl ?_; refine h_move rfl rfl rfl rfl ?_; refine hx_gF rfl rfl rfl (by omega) ?_; refine hx_yes rfl rfl rfl ?_; refine h_move rfl rfl rfl rfl ?_; refine hx_yes rfl rfl rfl ?_; refine h_move rfl rfl rfl rfl ?_; refine hx_yes rfl rfl rfl ?_; refine h_cmp rfl rfl rfl rfl rfl rfl ?_; refine hx_plain rfl ?_; refine h_pickF rfl rfl rfl rfl rfl ?_; refine hx_nil ?_; refine hq_then ?_; refine hc_condDF rfl (by omega) ?_; refine hc_skip ?_; refine hq_then ?_; refine hc_lex ?_; refine hx_plain rfl ?_; refine h_move rfl rfl rfl rfl ?_; refine hx_plain rfl ?_; refine h_arithI rfl rfl rfl rfl (by omega) rfl rfl ?_; refine hx_plain rfl ?_; refine h_assign rfl rfl rfl rfl ?_; refine hx_nil ?_; refine hq_norm_block ?_; refine hq_then ?_; refine hc_lex ?_; refine hx_plain rfl ?_; refine h_move rfl rfl rfl rfl ?_; refine hx_plain rfl ?_; refine h_arithI rfl rfl rfl rfl (by omega) rfl rfl ?_; refine hx_plain rfl ?_; refine h_assign rfl rfl rfl rfl ?_; refine hx_nil ?_)
            refine hq_round (i + 1) (by omega) (by omega) (.cons rfl (.cons rfl (.cons rfl (.cons ?_ (.cons rfl (.cons rfl .nil)))))) (fun _ h => h)
            show some (Value.int .i64 (stT s r + i + 1)) = some (Value.int .i64 (stT s r + ((i : Int) + 1)))
            rw [Int.add_assoc]
          · (refine hc_seq ?_; refine hc_seq ?_; refine hc_lex ?_; refine hx_plain rfl ?_; refine h_move rfl rfl rfl rfl ?_; refine hx_plain rfl ?_; refine h_move rfl rfl rfl rfl ?_; refine hx_plain rfl ?_; refine h_move rfl rfl rfl rfl ?_; refine hx_plain rfl ?_; refine h_rowAddr rfl rfl rfl UC.out IC.size (by omega) (by omega) rfl rfl ?_; refine hx_plain rfl ?_)
            refine h_load (v := .int .i64 (stT s (r + 1) - stT s r)) rfl rfl UC.out rfl (.tail (.tail .head)) k2 rfl rfl ?_
            (refine hx_plain rfl ?_; refine h_cmp rfl rfl rfl rfl rfl rfl ?_; refine hx_plain rfl ?_; refine h_move rfl rfl rfl rfl ?_; refine hx_gF rfl rfl rfl (by omega) ?_; refine hx_skip rfl rfl rfl rfl rfl rfl ?_; refine hx_skip rfl rfl rfl rfl rfl rfl ?_; refine hx_plain rfl ?_; refine h_pickF rfl rfl rfl rfl rfl ?_; refine hx_nil ?_; refine hq_then ?_; refine hc_condF rfl ?_; refine hc_exit ?_; refine hq_exit_then ?_; refine hq_exit_then ?_)
            refine hq_cut () trivial (.cons rfl (.cons rfl (.cons rfl (.cons ?_ (.cons rfl .nil))))) (fun _ h => h)
            show some (Value.int .i64 (stT s r + i)) = some (Value.int .i64 (stT s (r + 1)))
            rw [show stT s r + i = stT s (r + 1) by omega]
        · rintro ⟨⟩ _
          (refine hq_exit_block ?_; refine hq_norm_block ?_; refine hq_then ?_; refine hc_lex ?_; refine hx_plain rfl ?_; refine h_move rfl rfl rfl rfl ?_; refine hx_plain rfl ?_; refine h_arithI rfl rfl rfl rfl (by omega) rfl rfl ?_; refine hx_plain rfl ?_; refine h_assign rfl rfl rfl rfl ?_; refine hx_nil ?_)
          exact hq_round (r + 1) (by omega) (by omega) (.cons rfl (.cons rfl (.cons rfl (.cons rfl (.cons rfl .nil))))) (fun _ h => h)
      · obtain rfl : r = 7 := by omega
        (refine hc_seq ?_; refine hc_seq ?_; refine hc_lex ?_; refine hx_plain rfl ?_; refine h_move rfl rfl rfl rfl ?_; refine hx_plain rfl ?_; refine h_cmp rfl rfl rfl rfl rfl rfl ?_; refine hx_nil ?_; refine hq_then ?_; refine hc_condF rfl ?_; refine hc_exit ?_; refine hq_exit_then ?_; refine hq_exit_then ?_)
        exact hq_cut () trivial (.cons rfl (.cons rfl .nil)) (fun _ h => h.sub (.cons .head .nil))
    · rintro ⟨⟩ _
      obtain ⟨t0, t1, t2⟩ := stT_in hok 6 (by decide)
      have w1 : whereR (layR s) (layR s).to = (0, 0) := where_out (.inr (Int.le_refl _))
      have w2 : whereR (layR s) (-1) = (0, 0) := where_out (.inl (by decide))
      (refine hq_exit_block ?_; refine hq_then ?_; refine hc_seq ?_; refine hc_lex ?_; refine hx_plain rfl ?_; refine h_loadP rfl rfl UC.out rfl IC.size .head rfl rfl rfl rfl ?_; refine hx_plain rfl ?_; refine h_move rfl rfl rfl rfl ?_; refine hx_plain rfl ?_)
      refine h_callRd rfl rfl rfl rfl rfl rfl EC.out (fun w' h => where_reads (h.celAt hw) (layR s) (layR s).to (by omega)) ?_
      rw [w1]
      dsimp only
      (refine hx_plain rfl ?_; refine h_move rfl rfl rfl rfl ?_; refine hx_plain rfl ?_; refine h_extract rfl rfl rfl rfl rfl ?_; refine hx_plain rfl ?_; refine h_extract rfl rfl rfl rfl rfl ?_; refine hx_plain rfl ?_; refine h_assign rfl rfl rfl rfl ?_; refine hx_plain rfl ?_; refine h_assign rfl rfl rfl rfl ?_; refine hx_nil ?_; refine hq_then ?_; refine hc_seq ?_; refine hc_lex ?_; refine hx_plain rfl ?_; refine h_loadP rfl rfl UC.out rfl IC.size .head rfl rfl rfl rfl ?_; refine hx_plain rfl ?_)
      refine h_callRd rfl rfl rfl rfl rfl rfl EC.out (fun w' h => where_reads (h.celAt hw) (layR s) (-1) (by decide)) ?_
      rw [w2]
      dsimp only
      (refine hx_plain rfl ?_; refine h_move rfl rfl rfl rfl ?_; refine hx_plain rfl ?_; refine h_extract rfl rfl rfl rfl rfl ?_; refine hx_plain rfl ?_; refine h_extract rfl rfl rfl rfl rfl ?_; refine hx_plain rfl ?_; refine h_assign rfl rfl rfl rfl ?_; refine hx_plain rfl ?_; refine h_assign rfl rfl rfl rfl ?_; refine hx_nil ?_; refine hq_then ?_; refine hc_seq ?_; refine hc_lex ?_; refine hx_plain rfl ?_; refine h_move rfl rfl rfl rfl ?_; refine hx_plain rfl ?_; refine h_fieldAddr0 rfl rfl FC.out rfl rfl ?_; refine hx_plain rfl ?_; refine h_load rfl rfl UC.out rfl .head rfl rfl rfl ?_; refine hx_plain rfl ?_; refine h_cmp rfl rfl rfl rfl rfl rfl ?_; refine hx_plain rfl ?_; refine h_move rfl rfl rfl rfl ?_; refine hx_gT rfl rfl rfl (by omega) ?_; refine hx_yes rfl rfl rfl ?_; refine h_move rfl rfl rfl rfl ?_; refine hx_yes rfl rfl rfl ?_; refine h_cmp rfl rfl rfl rfl rfl rfl ?_; refine hx_plain rfl ?_; refine h_pickT rfl rfl rfl rfl rfl ?_; refine hx_plain rfl ?_; refine h_move rfl rfl rfl rfl ?_; refine hx_yes rfl rfl rfl ?_; refine h_move rfl rfl rfl rfl ?_; refine hx_yes rfl rfl rfl ?_; refine h_cmp rfl rfl rfl rfl rfl rfl ?_; refine hx_plain rfl ?_; refine h_pickT rfl rfl rfl rfl rfl ?_; refine hx_plain rfl ?_; refine h_move rfl rfl rfl rfl ?_; refine hx_yes rfl rfl rfl ?_; refine h_move rfl rfl rfl rfl ?_; refine hx_yes rfl rfl rfl ?_; refine h_cmp rfl rfl rfl rfl rfl rfl ?_; refine hx_plain rfl ?_; refine h_pickT rfl rfl rfl rfl rfl ?_; refine hx_plain rfl ?_; refine h_move rfl rfl rfl rfl ?_; refine hx_yes rfl rfl rfl ?_; refine h_move rfl rfl rfl rfl ?_; refine hx_yes rfl rfl rfl ?_; refine h_cmp rfl rfl rfl rfl rfl rfl ?_; refine hx_plain rfl ?_; refine h_pickT rfl rfl rfl rfl rfl ?_; refine hx_plain rfl ?_; refine h_assign rfl rfl rfl rfl ?_; refine hx_nil ?_; refine hq_then ?_; refine hc_ret ?_)
      exact hq_ret1 (.inr rfl) rfl rfl ⟨rfl, rfl⟩ (fun _ h => h.emp)
  · (refine hx_plain rfl ?_; refine h_cmp rfl rfl rfl rfl rfl rfl ?_; refine hx_nil ?_; refine hq_then ?_; refine hc_condDT rfl (by omega) ?_; refine hc_seq ?_; refine hc_lex ?_; refine hx_plain rfl ?_; refine h_assign rfl rfl rfl rfl ?_; refine hx_nil ?_; refine hq_then ?_; refine hc_ret ?_; refine hq_ret_then ?_)
    exact hq_ret1 (.inr rfl) rfl rfl ⟨rfl, rfl⟩ (fun _ h => h.emp)
end Go.Proofs.YtmdkboojafbpcaaDoor
