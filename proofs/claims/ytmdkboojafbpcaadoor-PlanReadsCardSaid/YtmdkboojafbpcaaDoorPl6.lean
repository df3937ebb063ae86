import Derived.Test.YtmdkboojafbpcaaDoorPl5
namespace Go.Proofs.YtmdkboojafbpcaaDoor
open Go Go.Proofs
set_option maxRecDepth 4000

def Lyt.l (l : Lyt) : List Int := [l.b, l.jo, l.jl, l.le, l.ll, l.bi, l.bl, l.ta, l.tl, l.da, l.dl, l.to, l.s.c, l.s.w, l.s.p, l.s.k, l.s.i, l.s.q, l.s.d, l.s.j]
theorem Lyt.l_inj {a b : Lyt} : a.l = b.l ↔ a = b := by
  constructor
  · intro h
    obtain ⟨_, _, _, _, _, _, _, _, _, _, _, _, ⟨_, _, _, _, _, _, _, _⟩⟩ := a
    obtain ⟨_, _, _, _, _, _, _, _, _, _, _, _, ⟨_, _, _, _, _, _, _, _⟩⟩ := b
    simp only [Lyt.l, List.cons.injEq, and_true] at h
    simp only [Lyt.mk.injEq, Shp.mk.injEq]
    exact ⟨h.1, h.2.1, h.2.2.1, h.2.2.2.1, h.2.2.2.2.1, h.2.2.2.2.2.1, h.2.2.2.2.2.2.1, h.2.2.2.2.2.2.2.1, h.2.2.2.2.2.2.2.2.1, h.2.2.2.2.2.2.2.2.2.1, h.2.2.2.2.2.2.2.2.2.2.1, h.2.2.2.2.2.2.2.2.2.2.2.1, h.2.2.2.2.2.2.2.2.2.2.2.2⟩
  · rintro rfl
    rfl
instance qcShape : QC Tryd.prog 23 8 := QC.flat (by kernel_rfl) (Tryd.underlying23.trans (by kernel_rfl)) (by kernel_rfl) rfl ⟨by decide, rfl, Tryd.underlying3, by decide, rfl, Tryd.underlying3, by decide, rfl, Tryd.underlying3, by decide, rfl, Tryd.underlying3, by decide, rfl, Tryd.underlying3, by decide, rfl, Tryd.underlying3, by decide, rfl, Tryd.underlying3, by decide, rfl, Tryd.underlying3, trivial⟩
def stL (l : Lyt) : List Int := [0, l.b, l.jo, l.le, l.bi, l.ta, l.da]
/-- The last place of the list whose entry is not above b. -/
def regN (st : List Int) (b : Int) : Nat → Nat
  | 0 => 0
  | i + 1 => if st.getD i 0 ≤ b then i else regN st b i
theorem regN_lt (st : List Int) (b : Int) : ∀ i, regN st b i ≤ i - 1
  | 0 => Nat.le_refl _
  | i + 1 => by
    rw [regN]
    split
    · omega
    · have := regN_lt st b i; omega
theorem planR_ok {s : Shp} {ly : Lyt} (h : planR s = (ly, 0)) : okS s ∧ ly = layR s ∧ (s.q + 512 - 1) / 512 + 4 * s.i ≤ s.d ∧ (layR s).to ≤ 4096 := by
  unfold planR at h
  split at h
  · rename_i hok
    split at h
    · cases h
    · rename_i hn
      injection h with h1 h2
      exact ⟨hok, h1.symm, by omega, by omega⟩
  · cases h
theorem stL_in {s : Shp} (h : okS s) : ∀ i, i < 7 → 0 ≤ (stL (layR s)).getD i 0 ∧ (stL (layR s)).getD i 0 ≤ 100000 := by
  obtain ⟨h0, h1, h2, h3, h4, h5, h6, h7⟩ := h
  intro i hi
  obtain rfl | rfl | rfl | rfl | rfl | rfl | rfl : i = 0 ∨ i = 1 ∨ i = 2 ∨ i = 3 ∨ i = 4 ∨ i = 5 ∨ i = 6 := by omega
  all_goals (simp only [stL, layR, List.getD_cons_zero, List.getD_cons_succ]; omega)
def whereR (l : Lyt) (b : Int) : Int × Int :=
  if (planR l.s).2 = 0 ∧ (planR l.s).1 = l ∧ 0 ≤ b ∧ b < l.to then ((regN (stL l) b 7 : Int) + 1, b - (stL l).getD (regN (stL l) b 7) 0) else (0, 0)
instance qcLayout : QC Tryd.prog 26 20 := QC.last (n := 12) (m := 8) (fs := (Tryd.prog.fieldsOf 26).toList.take 12) (f := (Tryd.prog.fieldsOf 26).toList.getD 12 default) (by kernel_rfl) (Tryd.underlying26.trans (by kernel_rfl)) (by kernel_rfl) (by kernel_rfl) rfl ⟨by decide, rfl, Tryd.underlying3, by decide, rfl, Tryd.underlying3, by decide, rfl, Tryd.underlying3, by decide, rfl, Tryd.underlying3, by decide, rfl, Tryd.underlying3, by decide, rfl, Tryd.underlying3, by decide, rfl, Tryd.underlying3, by decide, rfl, Tryd.underlying3, by decide, rfl, Tryd.underlying3, by decide, rfl, Tryd.underlying3, by decide, rfl, Tryd.underlying3, by decide, rfl, Tryd.underlying3, trivial⟩ (by decide) rfl (show SizeOf _ 23 8 from IC.size) (Tryd.underlying23.trans (by kernel_rfl)) (by kernel_rfl) rfl ⟨by decide, rfl, Tryd.underlying3, by decide, rfl, Tryd.underlying3, by decide, rfl, Tryd.underlying3, by decide, rfl, Tryd.underlying3, by decide, rfl, Tryd.underlying3, by decide, rfl, Tryd.underlying3, by decide, rfl, Tryd.underlying3, by decide, rfl, Tryd.underlying3, trivial⟩

set_option maxHeartbeats 8000000 in
theorem where_reads {w : World} (hw : CelAt 0 bndL w) (l : Lyt) (b : Int) (hb : -9223372036854775808 ≤ b ∧ b ≤ 9223372036854775807) :
    Calls Tryd.prog 27 [l.v, .int .i64 b].toArray w (fun en w' => en = .returned (.tuple #[.int .i64 (whereR l b).1, .int .i64 (whereR l b).2]) ∧ But w w' nowhere) := by
  refine Makes.reads (makes_of Tryd.func27 rfl rfl (Nat.le_of_ble_eq_true rfl) ?_)
  obtain ⟨pl, hpl⟩ : ∃ pl, planR l.s = pl := ⟨_, rfl⟩
  obtain ⟨ly, er⟩ := pl
  (refine hc_seq ?_; refine hc_lex ?_; refine hx_plain rfl ?_; (refine h_box rfl rfl rfl rfl rfl rfl (fun _ => ?_)); refine hx_plain rfl ?_; refine h_assign rfl rfl rfl rfl ?_; refine hx_plain rfl ?_; refine h_assign rfl rfl rfl rfl ?_; refine hx_nil ?_; refine hq_then ?_; refine hc_seq ?_; refine hc_lex ?_; refine hx_plain rfl ?_; refine h_fieldAddr0 rfl rfl FC.out rfl rfl ?_; refine hx_plain rfl ?_; refine h_loadP rfl rfl UC.out rfl IC.size .head rfl rfl rfl rfl ?_; refine hx_plain rfl ?_)
  refine h_callRd rfl rfl rfl rfl rfl rfl EC.out (fun w' h => plan_makes (h.celAt hw) l.s) ?_
  rw [hpl]
  dsimp only
  by_cases her : er = 0
  · subst her
    (refine hx_plain rfl ?_; refine h_move rfl rfl rfl rfl ?_; refine hx_plain rfl ?_; refine h_extract rfl rfl rfl rfl rfl ?_; refine hx_plain rfl ?_; refine h_extract rfl rfl rfl rfl rfl ?_; refine hx_plain rfl ?_; (refine h_alloc rfl rfl IC.zero rfl rfl rfl (fun _ => ?_)); refine hx_plain rfl ?_; refine h_storeAll rfl rfl rfl rfl rfl rfl IC.size .head rfl rfl rfl (List.all_eq_true.1 rfl) ?_; refine hx_plain rfl ?_; refine h_assign rfl rfl rfl rfl ?_; refine hx_nil ?_; refine hq_then ?_; refine hc_seq ?_; refine hc_seq ?_; refine hc_lex ?_; refine hx_plain rfl ?_; refine h_move rfl rfl rfl rfl ?_; refine hx_plain rfl ?_; refine h_cmp rfl rfl rfl rfl rfl rfl ?_; refine hx_plain rfl ?_; refine h_move rfl rfl rfl rfl ?_; refine hx_yes rfl rfl rfl ?_; refine h_loadP rfl rfl UC.out rfl IC.size .head rfl rfl rfl rfl ?_; refine hx_yes rfl rfl rfl ?_; refine h_loadP rfl rfl UC.out rfl IC.size (.tail .head) rfl rfl rfl rfl ?_; refine hx_yes rfl rfl rfl ?_)
    refine h_eqS ly.l l.l rfl rfl rfl rfl rfl qcLayout rfl rfl rfl rfl rfl ?_
    have hno : ¬ ((planR l.s).2 = 0 ∧ (planR l.s).1 = l ∧ 0 ≤ b ∧ b < l.to) → whereR l b = (0, 0) := fun h => if_neg h
    rw [hpl] at hno
    dsimp only at hno
    (refine hx_plain rfl ?_; refine h_pickF rfl rfl rfl rfl rfl ?_; refine hx_plain rfl ?_; refine h_move rfl rfl rfl rfl ?_; refine hx_gcaseD rfl rfl rfl (fun hc => ?_) (fun hc => ?_); refine hx_skip rfl rfl rfl rfl rfl rfl ?_; refine hx_skip rfl rfl rfl rfl rfl rfl ?_; refine hx_plain rfl ?_; refine h_pickT rfl rfl rfl rfl rfl ?_; refine hx_plain rfl ?_; refine h_move rfl rfl rfl rfl ?_; refine hx_skip rfl rfl rfl rfl rfl rfl ?_; refine hx_skip rfl rfl rfl rfl rfl rfl ?_; refine hx_skip rfl rfl rfl rfl rfl rfl ?_; refine hx_skip rfl rfl rfl rfl rfl rfl ?_; refine hx_plain rfl ?_; refine h_pickT rfl rfl rfl rfl rfl ?_; refine hx_nil ?_; refine hq_then ?_; refine hc_condT rfl ?_; refine hc_seq ?_; refine hc_lex ?_; refine hx_plain rfl ?_; refine h_assign rfl rfl rfl rfl ?_; refine hx_plain rfl ?_; refine h_assign rfl rfl rfl rfl ?_; refine hx_nil ?_; refine hq_then ?_; refine hc_ret ?_; refine hq_ret_then ?_; rotate_left; refine hx_yes rfl rfl rfl ?_; refine h_move rfl rfl rfl rfl ?_; refine hx_yes rfl rfl rfl ?_; refine h_cmp rfl rfl rfl rfl rfl rfl ?_; refine hx_plain rfl ?_; refine h_pickF rfl rfl rfl rfl rfl ?_; refine hx_plain rfl ?_; refine h_move rfl rfl rfl rfl ?_; refine hx_gcaseD rfl rfl rfl (fun hc => ?_) (fun hc => ?_); refine hx_skip rfl rfl rfl rfl rfl rfl ?_; refine hx_skip rfl rfl rfl rfl rfl rfl ?_; refine hx_skip rfl rfl rfl rfl rfl rfl ?_; refine hx_skip rfl rfl rfl rfl rfl rfl ?_; refine hx_plain rfl ?_; refine h_pickT rfl rfl rfl rfl rfl ?_; refine hx_nil ?_; refine hq_then ?_; refine hc_condT rfl ?_; refine hc_seq ?_; refine hc_lex ?_; refine hx_plain rfl ?_; refine h_assign rfl rfl rfl rfl ?_; refine hx_plain rfl ?_; refine h_assign rfl rfl rfl rfl ?_; refine hx_nil ?_; refine hq_then ?_; refine hc_ret ?_; refine hq_ret_then ?_; rotate_left; refine hx_yes rfl rfl rfl ?_; refine h_move rfl rfl rfl rfl ?_; refine hx_yes rfl rfl rfl ?_; refine h_fieldAddr0 rfl rfl FC.out rfl rfl ?_; refine hx_yes rfl rfl rfl ?_; refine h_load rfl rfl UC.out rfl (.tail .head) rfl rfl rfl ?_; refine hx_yes rfl rfl rfl ?_; refine h_cmp rfl rfl rfl rfl rfl rfl ?_; refine hx_plain rfl ?_; refine h_pickF rfl rfl rfl rfl rfl ?_; refine hx_nil ?_; refine hq_then ?_; refine hc_condD rfl (fun hc => ?_) (fun hc => ?_); refine hc_seq ?_; refine hc_lex ?_; refine hx_plain rfl ?_; refine h_assign rfl rfl rfl rfl ?_; refine hx_plain rfl ?_; refine h_assign rfl rfl rfl rfl ?_; refine hx_nil ?_; refine hq_then ?_; refine hc_ret ?_; refine hq_ret_then ?_; rotate_left; refine hc_skip ?_; refine hq_then ?_; refine hc_seq ?_; refine hc_lex ?_; refine hx_plain rfl ?_; refine h_fieldAddr0 rfl rfl FC.out rfl rfl ?_; refine hx_plain rfl ?_; refine h_load rfl rfl UC.out rfl (.tail .head) rfl rfl rfl ?_; refine hx_plain rfl ?_; refine h_fieldAddr0 rfl rfl FC.out rfl rfl ?_; refine hx_plain rfl ?_; refine h_load rfl rfl UC.out rfl (.tail .head) rfl rfl rfl ?_; refine hx_plain rfl ?_; refine h_fieldAddr0 rfl rfl FC.out rfl rfl ?_; refine hx_plain rfl ?_; refine h_load rfl rfl UC.out rfl (.tail .head) rfl rfl rfl ?_; refine hx_plain rfl ?_; refine h_fieldAddr0 rfl rfl FC.out rfl rfl ?_; refine hx_plain rfl ?_; refine h_load rfl rfl UC.out rfl (.tail .head) rfl rfl rfl ?_; refine hx_plain rfl ?_; refine h_fieldAddr0 rfl rfl FC.out rfl rfl ?_; refine hx_plain rfl ?_; refine h_load rfl rfl UC.out rfl (.tail .head) rfl rfl rfl ?_; refine hx_plain rfl ?_; refine h_fieldAddr0 rfl rfl FC.out rfl rfl ?_; refine hx_plain rfl ?_; refine h_load rfl rfl UC.out rfl (.tail .head) rfl rfl rfl ?_; refine hx_plain rfl ?_; refine h_buildA rfl UC.out IC.size IC.zero rfl rfl rfl (fun v hv => by simp at hv; rcases hv with rfl | rfl | rfl | rfl | rfl | rfl | rfl | rfl <;> rfl) rfl rfl ?_; refine hx_plain rfl ?_; (refine h_alloc rfl rfl IC.zero rfl rfl rfl (fun _ => ?_)); refine hx_plain rfl ?_; refine h_storeAll rfl rfl rfl rfl rfl rfl IC.size .head rfl rfl rfl (List.all_eq_true.1 rfl) ?_; refine hx_nil ?_; refine hq_then ?_; refine hc_seq ?_; refine hc_lex ?_; refine hx_plain rfl ?_; refine h_assign rfl rfl rfl rfl ?_; refine hx_nil ?_; refine hq_then ?_; refine hc_seq ?_; refine hc_seq ?_; refine hc_lex ?_; refine hx_plain rfl ?_; refine h_loadP rfl rfl UC.out rfl IC.size .head rfl rfl rfl rfl ?_; refine hx_plain rfl ?_; refine h_move rfl rfl rfl rfl ?_; refine hx_nil ?_; refine hq_then ?_; refine hc_block ?_; rotate_left)
    · rw [hno (fun h => hc (by rw [h.2.1]))]
      exact hq_R2 (.inr rfl) rfl (rv_tmp rfl) (rv_tmp rfl) ⟨rfl, rfl⟩ (fun _ h => h.emp)
    · rw [hno (fun h => by omega)]
      exact hq_R2 (.inr rfl) rfl (rv_tmp rfl) (rv_tmp rfl) ⟨rfl, rfl⟩ (fun _ h => h.emp)
    · rw [hno (fun h => by omega)]
      exact hq_R2 (.inr rfl) rfl (rv_tmp rfl) (rv_tmp rfl) ⟨rfl, rfl⟩ (fun _ h => h.emp)
    rename_i h1 h2 bx
    have hyes : whereR l b = ((regN (stL l) b 7 : Int) + 1, b - (stL l).getD (regN (stL l) b 7) 0) := by
      have h3 : ly = l := Lyt.l_inj.1 (Classical.not_not.1 h1)
      exact if_pos (by rw [hpl]; exact ⟨rfl, h3, by omega, by omega⟩)
    have hget : ∀ i, i < 7 → (ints (stL l))[i]? = some (.int .i64 ((stL l).getD i 0)) := fun i hi => by
      refine ints_get ?_
      rw [List.getD_eq_getElem?_getD, List.getElem?_eq_getElem (show i < (stL l).length from hi)]
      rfl
    refine hc_cut (id := 0) (Y := Unit) (fun _ => [(1, .int .i64 b), (8, .pointer (some ⟨bx, 0, none⟩)), (9, .int .i64 (regN (stL l) b 7 : Int))]) (fun _ => [Blk bx (.cells (ints (stL l)) 82)]) (fun _ => True) ?_ ?_
    · refine hc_loop (X := Nat) (fun i => [(1, .int .i64 b), (8, .pointer (some ⟨bx, 0, none⟩)), (9, .int .i64 (regN (stL l) b i : Int)), (48, .agg (ints (stL l))), (49, .int .i64 (i : Int))]) (fun i => [Blk bx (.cells (ints (stL l)) 82)]) (fun i => i ≤ 7) (fun i => 7 - i) 0 (.cons rfl (.cons rfl (.cons rfl (.cons rfl (.cons rfl .nil))))) (Nat.zero_le _) (fun _ h => h.sub (.cons .head .nil)) ?_
      intro i hi
      by_cases hlt : i < 7
      · (refine hc_seq ?_; refine hc_lex ?_; refine hx_plain rfl ?_; refine h_cmp rfl rfl rfl rfl rfl rfl ?_; refine hx_nil ?_; refine hq_then ?_; refine hc_seq ?_; refine hc_condDT rfl (by omega) ?_; refine hc_skip ?_; refine hq_then ?_; refine hc_seq ?_; refine hc_block ?_; refine hc_seq ?_; refine hc_lex ?_; refine hx_plain rfl ?_; refine h_move rfl rfl rfl rfl ?_; refine hx_plain rfl ?_)
        refine h_index rfl rfl rfl UC.out UC.out rfl IC.size (by omega) (v := .int .i64 ((stL l).getD i 0)) (by rw [Nat.mul_one]; exact hget i hlt) rfl rfl ?_
        (refine hx_plain rfl ?_; refine h_assign rfl rfl rfl rfl ?_; refine hx_plain rfl ?_; refine h_assign rfl rfl rfl rfl ?_; refine hx_nil ?_; refine hq_then ?_; refine hc_seq ?_; refine hc_lex ?_; refine hx_plain rfl ?_; refine h_move rfl rfl rfl rfl ?_; refine hx_plain rfl ?_; refine h_move rfl rfl rfl rfl ?_; refine hx_plain rfl ?_; refine h_cmp rfl rfl rfl rfl rfl rfl ?_; refine hx_nil ?_; refine hq_then ?_; refine hc_condD rfl (fun hc => ?_) (fun hc => ?_); refine hc_lex ?_; refine hx_plain rfl ?_; refine h_move rfl rfl rfl rfl ?_; refine hx_plain rfl ?_; refine h_assign rfl rfl rfl rfl ?_; refine hx_nil ?_; refine hq_norm_block ?_; refine hq_then ?_; refine hc_lex ?_; refine hx_plain rfl ?_; refine h_arithI rfl rfl rfl rfl (by omega) rfl rfl ?_; refine hx_plain rfl ?_; refine h_move rfl rfl rfl rfl ?_; refine hx_nil ?_; rotate_left; refine hc_skip ?_; refine hq_norm_block ?_; refine hq_then ?_; refine hc_lex ?_; refine hx_plain rfl ?_; refine h_arithI rfl rfl rfl rfl (by omega) rfl rfl ?_; refine hx_plain rfl ?_; refine h_move rfl rfl rfl rfl ?_; refine hx_nil ?_; rotate_left)
        · have e1 : regN (stL l) b (i + 1) = i := if_pos hc
          refine hq_round (i + 1) (by omega) (by omega) (.cons rfl (.cons rfl (.cons ?_ (.cons rfl (.cons rfl .nil))))) (fun _ h => h)
          rw [e1]
          rfl
        · have e1 : regN (stL l) b (i + 1) = regN (stL l) b i := if_neg hc
          refine hq_round (i + 1) (by omega) (by omega) (.cons rfl (.cons rfl (.cons ?_ (.cons rfl (.cons rfl .nil))))) (fun _ h => h)
          rw [e1]
          rfl
      · obtain rfl : i = 7 := by omega
        (refine hc_seq ?_; refine hc_lex ?_; refine hx_plain rfl ?_; refine h_cmp rfl rfl rfl rfl rfl rfl ?_; refine hx_nil ?_; refine hq_then ?_; refine hc_seq ?_; refine hc_condF rfl ?_; refine hc_exit ?_; refine hq_exit_then ?_; refine hq_exit_then ?_)
        exact hq_cut () trivial (.cons rfl (.cons rfl (.cons rfl .nil))) (fun _ h => h)
    · rintro ⟨⟩ _
      have hr7 := regN_lt (stL l) b 7
      obtain ⟨r, hr⟩ : ∃ r, regN (stL l) b 7 = r := ⟨_, rfl⟩
      rw [hr] at hr7 hyes ⊢
      rw [hyes]
      (refine hq_exit_block ?_; refine hq_then ?_; refine hc_seq ?_; refine hc_draw0 (by kernel_rfl) (by kernel_rfl) ?_; refine hx_plain rfl ?_; refine h_move rfl rfl rfl rfl ?_; refine hx_plain rfl ?_; refine h_arithI rfl rfl rfl rfl (by omega) rfl rfl ?_; refine hx_plain rfl ?_; refine h_move rfl rfl rfl rfl ?_; refine hx_plain rfl ?_; refine h_move rfl rfl rfl rfl ?_; refine hx_plain rfl ?_; refine h_indexAddrA rfl rfl rfl UC.out IC.size (by omega) rfl rfl ?_; refine hx_plain rfl ?_)
      have hin : 0 ≤ (stL l).getD r 0 ∧ (stL l).getD r 0 ≤ 100000 := by
        obtain ⟨k1, k2, _⟩ := planR_ok hpl
        have h3 : ly = l := Lyt.l_inj.1 (Classical.not_not.1 h1)
        have := stL_in k1 r (by omega)
        rwa [← k2, h3] at this
      refine h_load (v := .int .i64 ((stL l).getD r 0)) rfl rfl UC.out rfl .head (by rw [nth_eq, Nat.zero_add]; show (ints (stL l)).toList[r * 1]? = _; rw [Nat.mul_one, ← hget r (by omega)]; simp) rfl rfl ?_
      (refine hx_plain rfl ?_; refine h_arithI rfl rfl rfl rfl (by omega) rfl rfl ?_; refine hx_plain rfl ?_; refine h_assign rfl rfl rfl rfl ?_; refine hx_plain rfl ?_; refine h_assign rfl rfl rfl rfl ?_; refine hx_nil ?_; refine hq_then ?_; refine hc_ret ?_)
      exact hq_R2 (.inr rfl) rfl (rv_tmp rfl) (rv_tmp rfl) ⟨rfl, rfl⟩ (fun _ h => h.emp)
  · have hr : whereR l b = (0, 0) := if_neg (fun h => by rw [hpl] at h; exact her h.1)
    rw [hr]
    (refine hx_plain rfl ?_; refine h_move rfl rfl rfl rfl ?_; refine hx_plain rfl ?_; refine h_extract rfl rfl rfl rfl rfl ?_; refine hx_plain rfl ?_; refine h_extract rfl rfl rfl rfl rfl ?_; refine hx_plain rfl ?_; (refine h_alloc rfl rfl IC.zero rfl rfl rfl (fun _ => ?_)); refine hx_plain rfl ?_; refine h_storeAll rfl rfl rfl rfl rfl rfl IC.size .head rfl rfl rfl (List.all_eq_true.1 rfl) ?_; refine hx_plain rfl ?_; refine h_assign rfl rfl rfl rfl ?_; refine hx_nil ?_; refine hq_then ?_; refine hc_seq ?_; refine hc_seq ?_; refine hc_lex ?_; refine hx_plain rfl ?_; refine h_move rfl rfl rfl rfl ?_; refine hx_plain rfl ?_; refine h_cmp rfl rfl rfl rfl rfl rfl ?_; refine hx_plain rfl ?_; refine h_move rfl rfl rfl rfl ?_; refine hx_gT rfl rfl rfl (by omega) ?_; refine hx_skip rfl rfl rfl rfl rfl rfl ?_; refine hx_skip rfl rfl rfl rfl rfl rfl ?_; refine hx_skip rfl rfl rfl rfl rfl rfl ?_; refine hx_plain rfl ?_; refine h_pickT rfl rfl rfl rfl rfl ?_; refine hx_plain rfl ?_; refine h_move rfl rfl rfl rfl ?_; refine hx_skip rfl rfl rfl rfl rfl rfl ?_; refine hx_skip rfl rfl rfl rfl rfl rfl ?_; refine hx_plain rfl ?_; refine h_pickT rfl rfl rfl rfl rfl ?_; refine hx_plain rfl ?_; refine h_move rfl rfl rfl rfl ?_; refine hx_skip rfl rfl rfl rfl rfl rfl ?_; refine hx_skip rfl rfl rfl rfl rfl rfl ?_; refine hx_skip rfl rfl rfl rfl rfl rfl ?_; refine hx_skip rfl rfl rfl rfl rfl rfl ?_; refine hx_plain rfl ?_; refine h_pickT rfl rfl rfl rfl rfl ?_; refine hx_nil ?_; refine hq_then ?_; refine hc_condT rfl ?_; refine hc_seq ?_; refine hc_lex ?_; refine hx_plain rfl ?_; refine h_assign rfl rfl rfl rfl ?_; refine hx_plain rfl ?_; refine h_assign rfl rfl rfl rfl ?_; refine hx_nil ?_; refine hq_then ?_; refine hc_ret ?_; refine hq_ret_then ?_)
    exact hq_R2 (.inr rfl) rfl (rv_tmp rfl) (rv_tmp rfl) ⟨rfl, rfl⟩ (fun _ h => h.emp)
end Go.Proofs.YtmdkboojafbpcaaDoor
