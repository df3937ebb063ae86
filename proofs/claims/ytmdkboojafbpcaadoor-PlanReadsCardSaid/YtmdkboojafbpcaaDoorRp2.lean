import Derived.Test.YtmdkboojafbpcaaDoorRp1
namespace Go.Proofs.YtmdkboojafbpcaaDoor
open Go Go.Proofs
set_option maxRecDepth 4000

abbrev loL : List Value := [.int .i64 1, .int .i64 1, .int .i64 1, .int .i64 1, .int .i64 2, .int .i64 0, .int .i64 1, .int .i64 27]
abbrev hiL : List Value := [.int .i64 8, .int .i64 8, .int .i64 8, .int .i64 64, .int .i64 256, .int .i64 524288, .int .i64 4096, .int .i64 512]
theorem b1_get (s : Shp) {i : Nat} (hi : i < 8) : ∃ x lo hi : Int, (nmL s)[i]? = some (.int .i64 x) ∧ loL[i]? = some (.int .i64 lo) ∧ hiL[i]? = some (.int .i64 hi) ∧ (b1 s i ↔ lo ≤ x ∧ x ≤ hi) := by
  obtain rfl | rfl | rfl | rfl | rfl | rfl | rfl | rfl : i = 0 ∨ i = 1 ∨ i = 2 ∨ i = 3 ∨ i = 4 ∨ i = 5 ∨ i = 6 ∨ i = 7 := by omega
  all_goals exact ⟨_, _, _, rfl, rfl, rfl, Iff.rfl⟩
set_option maxHeartbeats 8000000 in
theorem rplan_spec (s : Shp) : Spec0 Tryd.prog 15 [s.v] (.tuple #[(planR s).1.v, .int .i64 (planR s).2]) := by
  refine spec_of Tryd.func15 rfl rfl (Nat.le_of_ble_eq_true rfl) (fun w F => ?_)
  (refine hc_seq ?_; refine hc_lex ?_; refine hx_plain rfl ?_; (refine h_box rfl rfl rfl rfl rfl rfl (fun _ => ?_)); refine hx_plain rfl ?_; (refine h_alloc rfl rfl IC.zero rfl rfl rfl (fun _ => ?_)); refine hx_plain rfl ?_; refine h_assign rfl rfl rfl rfl ?_; refine hx_nil ?_; refine hq_then ?_; refine hc_seq ?_; refine hc_lex ?_; refine hx_plain rfl ?_; (refine h_buildSliceB rfl rfl rfl UC.out IC.size IC.zero rfl rfl rfl (by omega) rfl rfl (fun _ => ?_)); refine hx_plain rfl ?_; refine h_assign rfl rfl rfl rfl ?_; refine hx_nil ?_; refine hq_then ?_; refine hc_seq ?_; refine hc_lex ?_; refine hx_plain rfl ?_; (refine h_buildSliceB rfl rfl rfl UC.out IC.size IC.zero rfl rfl rfl (by omega) rfl rfl (fun _ => ?_)); refine hx_plain rfl ?_; refine h_assign rfl rfl rfl rfl ?_; refine hx_nil ?_; refine hq_then ?_; refine hc_seq ?_; refine hc_lex ?_; refine hx_plain rfl ?_; refine h_loadP rfl rfl UC.out rfl IC.size (.tail (.tail (.tail .head))) rfl rfl rfl rfl ?_; refine hx_plain rfl ?_)
  refine h_call rfl rfl rfl rfl rfl rfl rfl rfl EC.out .nil (rnumbers_spec s) ?_
  rintro v M ⟨gn, rfl, rfl⟩
  (refine hx_plain rfl ?_; refine h_assign rfl rfl rfl rfl ?_; refine hx_nil ?_; refine hq_then ?_; refine hc_seq ?_; refine hc_seq ?_; refine hc_lex ?_; refine hx_plain rfl ?_; refine h_assign rfl rfl rfl rfl ?_; refine hx_nil ?_; refine hq_then ?_; refine hc_block ?_)
  rename_i b r gl gm
  refine hc_cut (id := 0) (Y := Unit) (fun _ => [(1, .pointer (some ⟨b, 0, none⟩)), (2, .pointer (some ⟨r, 0, none⟩))]) (fun _ => [Blk r (.cells Lyt.z.cs 26), Blk b (.cells s.cs 23)]) (fun _ => okS s) ?_ ?_
  · refine hc_loop (X := Nat) (fun i => [(1, .pointer (some ⟨b, 0, none⟩)), (2, .pointer (some ⟨r, 0, none⟩)), (4, .slice (some ⟨gl, 0, none⟩) 8 8), (5, .slice (some ⟨gm, 0, none⟩) 8 8), (6, .slice (some ⟨gn, 0, none⟩) 8 8), (7, .int .i64 (i : Int))]) (fun _ => [Blk gn (.cells (nmL s).toArray 3), Blk gm (.cells hiL.toArray 3), Blk gl (.cells loL.toArray 3), Blk r (.cells Lyt.z.cs 26), Blk b (.cells s.cs 23)]) (fun i => i ≤ 8 ∧ ∀ j, j < i → b1 s j) (fun i => 8 - i) 0 (.cons rfl (.cons rfl (.cons rfl (.cons rfl (.cons rfl (.cons rfl .nil)))))) ⟨Nat.zero_le _, fun j hj => absurd hj (Nat.not_lt_zero j)⟩ (fun _ h => h) ?_
    rintro i ⟨hi, hb⟩
    by_cases hlt : i < 8
    · have hb1 : b1 s i → ∀ j, j < i + 1 → b1 s j := fun h j hj => by
        rcases Nat.lt_or_ge j i with h2 | h2
        · exact hb j h2
        · obtain rfl : j = i := by omega
          exact h
      obtain ⟨x, lo, hi2, q1, q2, q3, q4⟩ := b1_get s hlt
      have k1 : nth (nmL s).toArray.toList (((i : Nat) : Int).toNat * 1) = some (.int .i64 x) := by rw [nth_eq, Nat.mul_one]; exact q1
      have k2 : nth loL.toArray.toList (((i : Nat) : Int).toNat * 1) = some (.int .i64 lo) := by rw [nth_eq, Nat.mul_one]; exact q2
      have k3 : nth hiL.toArray.toList (((i : Nat) : Int).toNat * 1) = some (.int .i64 hi2) := by rw [nth_eq, Nat.mul_one]; exact q3
      (refine hc_seq ?_; refine hc_seq ?_; refine hc_lex ?_; refine hx_plain rfl ?_; refine h_move rfl rfl rfl rfl ?_; refine hx_plain rfl ?_; refine h_move rfl rfl rfl rfl ?_; refine hx_plain rfl ?_; refine h_len_slice rfl rfl rfl UC.out rfl rfl rfl ?_; refine hx_plain rfl ?_; refine h_cmp rfl rfl rfl rfl rfl rfl ?_; refine hx_nil ?_; refine hq_then ?_; refine hc_condDT rfl (by omega) ?_; refine hc_skip ?_; refine hq_then ?_; refine hc_seq ?_; refine hc_block ?_; refine hc_seq ?_; refine hc_draw0 (by kernel_rfl) (by kernel_rfl) ?_; refine hx_plain rfl ?_; refine h_move rfl rfl rfl rfl ?_; refine hx_plain rfl ?_; refine h_move rfl rfl rfl rfl ?_; refine hx_plain rfl ?_; refine h_rowAddr rfl rfl rfl UC.out IC.size (by omega) (by omega) rfl rfl ?_; refine hx_plain rfl ?_)
      refine h_load (v := .int .i64 x) rfl rfl UC.out rfl .head k1 rfl rfl ?_
      (refine hx_plain rfl ?_; refine h_move rfl rfl rfl rfl ?_; refine hx_plain rfl ?_; refine h_move rfl rfl rfl rfl ?_; refine hx_plain rfl ?_; refine h_rowAddr rfl rfl rfl UC.out IC.size (by omega) (by omega) rfl rfl ?_; refine hx_plain rfl ?_)
      refine h_load (v := .int .i64 lo) rfl rfl UC.out rfl (.tail (.tail .head)) k2 rfl rfl ?_
      (refine hx_plain rfl ?_; refine h_cmp rfl rfl rfl rfl rfl rfl ?_; refine hx_plain rfl ?_; refine h_move rfl rfl rfl rfl ?_; refine hx_gcaseD rfl rfl rfl (fun hc => ?_) (fun hc => ?_); refine hx_skip rfl rfl rfl rfl rfl rfl ?_; refine hx_skip rfl rfl rfl rfl rfl rfl ?_; refine hx_skip rfl rfl rfl rfl rfl rfl ?_; refine hx_skip rfl rfl rfl rfl rfl rfl ?_; refine hx_skip rfl rfl rfl rfl rfl rfl ?_; refine hx_skip rfl rfl rfl rfl rfl rfl ?_; refine hx_skip rfl rfl rfl rfl rfl rfl ?_; refine hx_skip rfl rfl rfl rfl rfl rfl ?_; refine hx_skip rfl rfl rfl rfl rfl rfl ?_; refine hx_plain rfl ?_; refine h_pickT rfl rfl rfl rfl rfl ?_; refine hx_nil ?_; refine hq_then ?_; refine hc_condT rfl ?_; refine hc_seq ?_; refine hc_lex ?_; refine hx_plain rfl ?_; refine h_build rfl inferInstance rfl rfl rfl rfl ?_; refine hx_plain rfl ?_; refine h_storeAll rfl rfl rfl rfl rfl rfl IC.size (.tail (.tail (.tail .head))) rfl rfl rfl (List.all_eq_true.1 rfl) ?_; refine hx_plain rfl ?_; refine h_assign rfl rfl rfl rfl ?_; refine hx_nil ?_; refine hq_then ?_; refine hc_ret ?_; refine hq_ret_block ?_; refine hq_ret_then ?_; refine hq_ret_then ?_; refine hq_cut_ret ?_; refine hq_ret_block ?_; refine hq_ret_then ?_; rotate_left; refine hx_yes rfl rfl rfl ?_; refine h_move rfl rfl rfl rfl ?_; refine hx_yes rfl rfl rfl ?_; refine h_move rfl rfl rfl rfl ?_; refine hx_yes rfl rfl rfl ?_; refine h_rowAddr rfl rfl rfl UC.out IC.size (by omega) (by omega) rfl rfl ?_; refine hx_yes rfl rfl rfl ?_; rotate_left)
      · exact hq_R2 (.inr rfl) rfl (rv_cell rfl .head UC.out rfl IC.size) (rv_tmp rfl) ⟨by rw [planR_no hlt (fun hb => by have := q4.1 hb; omega)]; rfl, rfl⟩ (fun _ h => h.sub .nil)
      refine h_load (v := .int .i64 x) rfl rfl UC.out rfl .head k1 rfl rfl ?_
      (refine hx_yes rfl rfl rfl ?_; refine h_move rfl rfl rfl rfl ?_; refine hx_yes rfl rfl rfl ?_; refine h_move rfl rfl rfl rfl ?_; refine hx_yes rfl rfl rfl ?_; refine h_rowAddr rfl rfl rfl UC.out IC.size (by omega) (by omega) rfl rfl ?_; refine hx_yes rfl rfl rfl ?_)
      refine h_load (v := .int .i64 hi2) rfl rfl UC.out rfl (.tail .head) k3 rfl rfl ?_
      (refine hx_yes rfl rfl rfl ?_; refine h_cmp rfl rfl rfl rfl rfl rfl ?_; refine hx_plain rfl ?_; refine h_pickF rfl rfl rfl rfl rfl ?_; refine hx_nil ?_; refine hq_then ?_; refine hc_condD rfl (fun hc => ?_) (fun hc => ?_); refine hc_seq ?_; refine hc_lex ?_; refine hx_plain rfl ?_; refine h_build rfl inferInstance rfl rfl rfl rfl ?_; refine hx_plain rfl ?_; refine h_storeAll rfl rfl rfl rfl rfl rfl IC.size (.tail (.tail (.tail .head))) rfl rfl rfl (List.all_eq_true.1 rfl) ?_; refine hx_plain rfl ?_; refine h_assign rfl rfl rfl rfl ?_; refine hx_nil ?_; refine hq_then ?_; refine hc_ret ?_; refine hq_ret_block ?_; refine hq_ret_then ?_; refine hq_ret_then ?_; refine hq_cut_ret ?_; refine hq_ret_block ?_; refine hq_ret_then ?_; rotate_left; refine hc_skip ?_; refine hq_norm_block ?_; refine hq_then ?_; refine hc_lex ?_; refine hx_plain rfl ?_; refine h_move rfl rfl rfl rfl ?_; refine hx_plain rfl ?_; refine h_arithI rfl rfl rfl rfl (by omega) rfl rfl ?_; refine hx_plain rfl ?_; refine h_assign rfl rfl rfl rfl ?_; refine hx_nil ?_; rotate_left)
      · exact hq_R2 (.inr rfl) rfl (rv_cell rfl .head UC.out rfl IC.size) (rv_tmp rfl) ⟨by rw [planR_no hlt (fun hb => by have := q4.1 hb; omega)]; rfl, rfl⟩ (fun _ h => h.sub .nil)
      · exact hq_round (i + 1) (by omega) ⟨by omega, hb1 (q4.2 ⟨by omega, by omega⟩)⟩ (.cons rfl (.cons rfl (.cons rfl (.cons rfl (.cons rfl (.cons rfl .nil)))))) (fun _ h => h)
    · obtain rfl : i = 8 := by omega
      (refine hc_seq ?_; refine hc_seq ?_; refine hc_lex ?_; refine hx_plain rfl ?_; refine h_move rfl rfl rfl rfl ?_; refine hx_plain rfl ?_; refine h_move rfl rfl rfl rfl ?_; refine hx_plain rfl ?_; refine h_len_slice rfl rfl rfl UC.out rfl rfl rfl ?_; refine hx_plain rfl ?_; refine h_cmp rfl rfl rfl rfl rfl rfl ?_; refine hx_nil ?_; refine hq_then ?_; refine hc_condF rfl ?_; refine hc_exit ?_; refine hq_exit_then ?_; refine hq_exit_then ?_)
      exact hq_cut () (okS_of hb) (.cons rfl (.cons rfl .nil)) (fun _ h => h.sub (.cons (.tail (.tail (.tail .head))) (.cons (.tail (.tail (.tail .head))) .nil)))
  · rintro ⟨⟩ hok
    have ht7 : stT s 7 = (layR s).to := rfl
    have hto : (layR s).to = 2 + s.j + (1 + 3 * s.k) + 1 + (s.i + 3) / 4 + s.d := rfl
    have hp : planR s = if s.d < (s.q + 512 - 1) / 512 + 4 * s.i ∨ 4096 < (layR s).to then (.z, 63) else (layR s, 0) := if_pos hok
    obtain ⟨h0, h1, h2, h3, h4, h5, h6, h7⟩ := id hok
    (refine hq_exit_block ?_; refine hq_then ?_; refine hc_seq ?_; refine hc_lex ?_; refine hx_plain rfl ?_; refine h_loadP rfl rfl UC.out rfl IC.size (.tail .head) rfl rfl rfl rfl ?_; refine hx_plain rfl ?_)
    refine h_callR rfl rfl rfl rfl rfl rfl EC.out ((rbegins_spec hok 7 (by decide)).reads _) ?_
    rw [ht7]
    (refine hx_plain rfl ?_; refine h_assign rfl rfl rfl rfl ?_; refine hx_nil ?_; refine hq_then ?_; refine hc_seq ?_; refine hc_seq ?_; refine hc_lex ?_; refine hx_plain rfl ?_; refine h_fieldAddr0 rfl rfl FC.out rfl rfl ?_; refine hx_plain rfl ?_; refine h_load rfl rfl UC.out rfl (.tail .head) rfl rfl rfl ?_; refine hx_plain rfl ?_; refine h_fieldAddr0 rfl rfl FC.out rfl rfl ?_; refine hx_plain rfl ?_; refine h_load rfl rfl UC.out rfl (.tail .head) rfl rfl rfl ?_; refine hx_plain rfl ?_; refine h_arithI rfl rfl rfl rfl (by omega) rfl rfl ?_; refine hx_plain rfl ?_; refine h_quoI rfl rfl rfl (by omega) rfl rfl ?_; refine hx_plain rfl ?_; refine h_fieldAddr0 rfl rfl FC.out rfl rfl ?_; refine hx_plain rfl ?_; refine h_load rfl rfl UC.out rfl (.tail .head) rfl rfl rfl ?_; refine hx_plain rfl ?_; refine h_arithI rfl rfl rfl rfl (by omega) rfl rfl ?_; refine hx_plain rfl ?_; refine h_arithI rfl rfl rfl rfl (by omega) rfl rfl ?_; refine hx_plain rfl ?_; refine h_cmp rfl rfl rfl rfl rfl rfl ?_; refine hx_plain rfl ?_; refine h_move rfl rfl rfl rfl ?_; refine hx_gcaseD rfl rfl rfl (fun hc => ?_) (fun hc => ?_); refine hx_skip rfl rfl rfl rfl rfl rfl ?_; refine hx_skip rfl rfl rfl rfl rfl rfl ?_; refine hx_plain rfl ?_; refine h_pickT rfl rfl rfl rfl rfl ?_; refine hx_nil ?_; refine hq_then ?_; refine hc_condT rfl ?_; refine hc_seq ?_; refine hc_lex ?_; refine hx_plain rfl ?_; refine h_build rfl inferInstance rfl rfl rfl rfl ?_; refine hx_plain rfl ?_; refine h_storeAll rfl rfl rfl rfl rfl rfl IC.size .head rfl rfl rfl (List.all_eq_true.1 rfl) ?_; refine hx_plain rfl ?_; refine h_assign rfl rfl rfl rfl ?_; refine hx_nil ?_; refine hq_then ?_; refine hc_ret ?_; refine hq_ret_then ?_; rotate_left; refine hx_yes rfl rfl rfl ?_; refine h_move rfl rfl rfl rfl ?_; refine hx_yes rfl rfl rfl ?_; refine h_cmp rfl rfl rfl rfl rfl rfl ?_; refine hx_plain rfl ?_; refine h_pickF rfl rfl rfl rfl rfl ?_; refine hx_nil ?_; refine hq_then ?_; refine hc_condD rfl (fun hc => ?_) (fun hc => ?_); refine hc_seq ?_; refine hc_lex ?_; refine hx_plain rfl ?_; refine h_build rfl inferInstance rfl rfl rfl rfl ?_; refine hx_plain rfl ?_; refine h_storeAll rfl rfl rfl rfl rfl rfl IC.size .head rfl rfl rfl (List.all_eq_true.1 rfl) ?_; refine hx_plain rfl ?_; refine h_assign rfl rfl rfl rfl ?_; refine hx_nil ?_; refine hq_then ?_; refine hc_ret ?_; refine hq_ret_then ?_; rotate_left; refine hc_skip ?_; refine hq_then ?_; refine hc_seq ?_; refine hc_lex ?_; refine hx_plain rfl ?_; refine h_loadP rfl rfl UC.out rfl IC.size (.tail .head) rfl rfl rfl rfl ?_; refine hx_plain rfl ?_; rotate_left)
    · exact hq_R2 (.inr rfl) rfl (rv_cell rfl .head UC.out rfl IC.size) (rv_tmp rfl) ⟨by rw [hp, if_pos (.inl (by omega))]; rfl, rfl⟩ (fun _ h => h.sub .nil)
    · exact hq_R2 (.inr rfl) rfl (rv_cell rfl .head UC.out rfl IC.size) (rv_tmp rfl) ⟨by rw [hp, if_pos (.inr (by omega))]; rfl, rfl⟩ (fun _ h => h.sub .nil)
    rw [hp, if_neg (by omega)]
    refine h_call rfl rfl rfl rfl rfl rfl rfl rfl EC.out .nil (rlengths_spec hok) ?_
    rintro v M ⟨gn2, rfl, rfl⟩
    (refine hx_plain rfl ?_; refine h_assign rfl rfl rfl rfl ?_; refine hx_nil ?_; refine hq_then ?_)
    refine hc_seq ?_
    refine hc_drawQ (by kernel_rfl) (by kernel_rfl) ?_
    (refine hx_plain rfl ?_; refine h_loadP rfl rfl UC.out rfl IC.size (.tail (.tail .head)) rfl rfl rfl rfl ?_; refine hx_plain rfl ?_)
    refine h_callR rfl rfl rfl rfl rfl rfl EC.out ((rbegins_spec hok 1 (by decide)).reads _) ?_
    rw [show stT s 1 = 1 from rfl]
    (refine hx_plain rfl ?_; refine h_loadP rfl rfl UC.out rfl IC.size (.tail (.tail .head)) rfl rfl rfl rfl ?_; refine hx_plain rfl ?_)
    refine h_callR rfl rfl rfl rfl rfl rfl EC.out ((rbegins_spec hok 2 (by decide)).reads _) ?_
    rw [show stT s 2 = 2 from rfl]
    (refine hx_plain rfl ?_; refine h_move rfl rfl rfl rfl ?_; refine hx_plain rfl ?_; refine h_rowAddr rfl rfl rfl UC.out IC.size (by omega) (by omega) rfl rfl ?_; refine hx_plain rfl ?_; refine h_load rfl rfl UC.out rfl .head rfl rfl rfl ?_; refine hx_plain rfl ?_; refine h_loadP rfl rfl UC.out rfl IC.size (.tail (.tail .head)) rfl rfl rfl rfl ?_; refine hx_plain rfl ?_)
    refine h_callR rfl rfl rfl rfl rfl rfl EC.out ((rbegins_spec hok 3 (by decide)).reads _) ?_
    rw [show stT s 3 = 2 + s.j from rfl]
    (refine hx_plain rfl ?_; refine h_move rfl rfl rfl rfl ?_; refine hx_plain rfl ?_; refine h_rowAddr rfl rfl rfl UC.out IC.size (by omega) (by omega) rfl rfl ?_; refine hx_plain rfl ?_; refine h_load rfl rfl UC.out rfl .head rfl rfl rfl ?_; refine hx_plain rfl ?_; refine h_loadP rfl rfl UC.out rfl IC.size (.tail (.tail .head)) rfl rfl rfl rfl ?_; refine hx_plain rfl ?_)
    refine h_callR rfl rfl rfl rfl rfl rfl EC.out ((rbegins_spec hok 4 (by decide)).reads _) ?_
    rw [show stT s 4 = 2 + s.j + (1 + 3 * s.k) from rfl]
    (refine hx_plain rfl ?_; refine h_move rfl rfl rfl rfl ?_; refine hx_plain rfl ?_; refine h_rowAddr rfl rfl rfl UC.out IC.size (by omega) (by omega) rfl rfl ?_; refine hx_plain rfl ?_; refine h_load rfl rfl UC.out rfl .head rfl rfl rfl ?_; refine hx_plain rfl ?_; refine h_loadP rfl rfl UC.out rfl IC.size (.tail (.tail .head)) rfl rfl rfl rfl ?_; refine hx_plain rfl ?_)
    refine h_callR rfl rfl rfl rfl rfl rfl EC.out ((rbegins_spec hok 5 (by decide)).reads _) ?_
    rw [show stT s 5 = 2 + s.j + (1 + 3 * s.k) + 1 from rfl]
    (refine hx_plain rfl ?_; refine h_move rfl rfl rfl rfl ?_; refine hx_plain rfl ?_; refine h_rowAddr rfl rfl rfl UC.out IC.size (by omega) (by omega) rfl rfl ?_; refine hx_plain rfl ?_; refine h_load rfl rfl UC.out rfl .head rfl rfl rfl ?_; refine hx_plain rfl ?_; refine h_loadP rfl rfl UC.out rfl IC.size (.tail (.tail .head)) rfl rfl rfl rfl ?_; refine hx_plain rfl ?_)
    refine h_callR rfl rfl rfl rfl rfl rfl EC.out ((rbegins_spec hok 6 (by decide)).reads _) ?_
    rw [show stT s 6 = 2 + s.j + (1 + 3 * s.k) + 1 + (s.i + 3) / 4 from rfl]
    (refine hx_plain rfl ?_; refine h_move rfl rfl rfl rfl ?_; refine hx_plain rfl ?_; refine h_rowAddr rfl rfl rfl UC.out IC.size (by omega) (by omega) rfl rfl ?_; refine hx_plain rfl ?_; refine h_load rfl rfl UC.out rfl .head rfl rfl rfl ?_; refine hx_plain rfl ?_; refine h_move rfl rfl rfl rfl ?_; refine hx_plain rfl ?_; refine h_loadP rfl rfl UC.out rfl IC.size (.tail (.tail .head)) rfl rfl rfl rfl ?_; refine hx_plain rfl ?_)
    generalize e5 : 2 + s.j + (1 + 3 * s.k) + 1 + (s.i + 3) / 4 = x5
    generalize e4 : 2 + s.j + (1 + 3 * s.k) + 1 = x4
    generalize e3 : 2 + s.j + (1 + 3 * s.k) = x3
    generalize e2 : 2 + s.j = x2
    generalize e1 : 1 + 3 * s.k = x1
    generalize e0 : (s.i + 3) / 4 = x0
    generalize e6 : (layR s).to = x6
    refine h_build (vs := [(0, .int .i64 1), (1, .int .i64 2), (2, .int .i64 s.j), (3, .int .i64 x2), (4, .int .i64 x1), (5, .int .i64 x3), (6, .int .i64 1), (7, .int .i64 x4), (8, .int .i64 x0), (9, .int .i64 x5), (10, .int .i64 s.d), (11, .int .i64 x6), (12, .agg (List.take 8 (List.drop 0 s.cs.toList)).toArray)]) (cs := [.int .i64 1, .int .i64 2, .int .i64 s.j, .int .i64 x2, .int .i64 x1, .int .i64 x3, .int .i64 1, .int .i64 x4, .int .i64 x0, .int .i64 x5, .int .i64 s.d, .int .i64 x6, .int .i64 s.c, .int .i64 s.w, .int .i64 s.p, .int .i64 s.k, .int .i64 s.i, .int .i64 s.q, .int .i64 s.d, .int .i64 s.j]) rfl inferInstance (by kernel_rfl) (by kernel_rfl) rfl rfl ?_
    (refine hx_plain rfl ?_; refine h_storeAll rfl rfl rfl rfl rfl rfl IC.size (.tail .head) rfl rfl rfl (List.all_eq_true.1 rfl) ?_; refine hx_plain rfl ?_; refine h_assign rfl rfl rfl rfl ?_; refine hx_nil ?_; refine hq_then ?_; refine hc_ret ?_)
    subst e0 e1 e2 e3 e4 e5 e6
    exact hq_R2 (.inr rfl) rfl (rv_cell rfl .head UC.out rfl IC.size) (rv_tmp rfl) ⟨rfl, rfl⟩ (fun _ h => h.sub .nil)
end Go.Proofs.YtmdkboojafbpcaaDoor
