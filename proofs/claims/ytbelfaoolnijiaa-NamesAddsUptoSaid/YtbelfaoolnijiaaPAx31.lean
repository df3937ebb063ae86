-- Printed by a program of this session over the kit's print (some functions are told by hand). Not trusted: Lean checks it.
import Derived.Test.YtbelfaoolnijiaaPAx0
import Derived.Test.YtbelfaoolnijiaaPAx17
import Derived.Test.YtbelfaoolnijiaaPAx20
namespace Go.Proofs.Ytbelfaoolnijiaa.PA
open Go.RowKit Go.Proofs.Ytbelfaoolnijiaa Go.Proofs.YtbelfaoolnijiaaW.PrintWords Go.Proofs.YtbelfaoolnijiaaW.PrintLast Go.Proofs.YtbelfaoolnijiaaW.PrintMore
attribute [local go_sem] max2_int min2_int max_two min_two max_three min_three max_four min_four   -- for this text's walks alone
set_option linter.unusedVariables false
set_option linter.unusedSimpArgs false

/-! ### annexref3_Parent: function 27 -/
def annexref3_Parent.f (k : Nat) (a0 : ByteArray) : Option (ByteArray × ByteArray × Int) := (annexref3_Split.f k a0).bind fun bt309 => (if bt309.2 = 0 then (if (bt309.1.length : Int) = 0 then (some ((⟨#[]⟩ : ByteArray), (⟨#[]⟩ : ByteArray), 34)) else (if 0 ≤ (wrap64 ((bt309.1.length : Int) - 1)) then (if (wrap64 ((bt309.1.length : Int) - 1)) ≤ (bt309.1.length : Int) then ((annexref3_Join.f k (bt309.1.take ((wrap64 ((bt309.1.length : Int) - 1)) : Int).toNat)).bind fun bt317 => (if (wrap64 ((bt309.1.length : Int) - 1)) < (bt309.1.length : Int) then (some (bt317.1, rdOf ByteArray.empty bt309.1 (wrap64 ((bt309.1.length : Int) - 1)), 0)) else (none))) else (none)) else (none))) else (some ((⟨#[]⟩ : ByteArray), (⟨#[]⟩ : ByteArray), bt309.2)))
theorem annexref3_Parent.mono : ∀ a0 k, LeO (annexref3_Parent.f k a0) (annexref3_Parent.f (k + 1) a0) := by
  intro a0 k
  unfold annexref3_Parent.f
  repeat' first
      | (with_reducible exact annexref3_Join.mono _ _)
      | (with_reducible exact annexref3_Split.mono _ _)
      | (with_reducible exact LeO.refl _)
      | (with_reducible exact LeO.none _)
      | (with_reducible refine LeO.ite ?_ ?_)
      | (with_reducible refine LeO.bind ?_ (fun _ => ?_))
      | exact annexref3_Join.mono _ _
      | exact annexref3_Split.mono _ _
      | exact LeO.none _
      | refine LeO.ite ?_ ?_
      | refine LeO.bind ?_ (fun _ => ?_)
set_option maxHeartbeats 8000000 in
set_option maxRecDepth 100000 in
theorem annexref3_Parent.calls (k : Nat) (a0 : ByteArray) (r1 : ByteArray) (r2 : ByteArray) (r3 : Int) (w : World) (h : annexref3_Parent.f k a0 = some (r1, r2, r3)) :
    Calls Try.prog 27 #[.string a0] w fun e w' => e = .returned (.tuple #[.string r1, .string r2, .int .i64 r3]) ∧ Below w.heap.size w w' := by
  have HB := Aside0.mk (Below.refl w.heap.size w)
  have H : ((annexref3_Split.f k a0).bind fun bt309 => (if bt309.2 = 0 then (if (bt309.1.length : Int) = 0 then (some ((⟨#[]⟩ : ByteArray), (⟨#[]⟩ : ByteArray), 34)) else (if 0 ≤ (wrap64 ((bt309.1.length : Int) - 1)) then (if (wrap64 ((bt309.1.length : Int) - 1)) ≤ (bt309.1.length : Int) then ((annexref3_Join.f k (bt309.1.take ((wrap64 ((bt309.1.length : Int) - 1)) : Int).toNat)).bind fun bt317 => (if (wrap64 ((bt309.1.length : Int) - 1)) < (bt309.1.length : Int) then (some (bt317.1, rdOf ByteArray.empty bt309.1 (wrap64 ((bt309.1.length : Int) - 1)), 0)) else (none))) else (none)) else (none))) else (some ((⟨#[]⟩ : ByteArray), (⟨#[]⟩ : ByteArray), bt309.2)))) = some (r1, r2, r3) := h
  clear h
  replace H := Option.bind_eq_some_iff.mp H
  obtain ⟨⟨t309, t310⟩, A20, H⟩ := H
  replace H : (if t310 = 0 then (if (t309.length : Int) = 0 then (some ((⟨#[]⟩ : ByteArray), (⟨#[]⟩ : ByteArray), 34)) else (if 0 ≤ (wrap64 ((t309.length : Int) - 1)) then (if (wrap64 ((t309.length : Int) - 1)) ≤ (t309.length : Int) then ((annexref3_Join.f k (t309.take ((wrap64 ((t309.length : Int) - 1)) : Int).toNat)).bind fun bt317 => (if (wrap64 ((t309.length : Int) - 1)) < (t309.length : Int) then (some (bt317.1, rdOf ByteArray.empty t309 (wrap64 ((t309.length : Int) - 1)), 0)) else (none))) else (none)) else (none))) else (some ((⟨#[]⟩ : ByteArray), (⟨#[]⟩ : ByteArray), t310))) = some (r1, r2, r3) := H
  have A2 := Aside0.mk A20
  clear A20
  by_cases c3 : t310 = 0
  · rw [if_pos c3] at H
    have c3b0 : (t310 == 0) = true := beq_iff_eq.mpr c3
    have c3b1 : (t310 != 0) = false := bne_eq_false_iff_eq.mpr c3
    clear c3
    by_cases c4 : (t309.length : Int) = 0
    · rw [if_pos c4] at H
      have c4b0 : ((t309.length : Int) == 0) = true := beq_iff_eq.mpr c4
      have c4b1 : ((t309.length : Int) != 0) = false := bne_eq_false_iff_eq.mpr c4
      clear c4
      simp only [Option.some.injEq, Prod.mk.injEq] at H
      obtain ⟨rfl, rfl, rfl⟩ := H
      go_enter Try.func27, Try.ntmps27
      go_wp2_with (first | (go_at_call 17; (with_reducible refine (annexref3_Split.calls k a0 t309 t310 _ A2.out).mono ?_); rintro e w5 ⟨v311, rfl, ho0, hb⟩; have n0_ := Aside0.mk (Kd.R_lower ho0 (below_size (by repeat (first | (with_reducible first | exact HB.out | apply below_alloc | apply pw_below_drewN | apply below_drew1) | exact HB.out)))); have n1_ := Aside0.mk (below_step (by repeat (first | (with_reducible first | exact HB.out | apply below_alloc | apply pw_below_drewN | apply below_drew1) | exact HB.out)) hb); clear HB; have HO312 := n0_; have HB := n1_; clear n0_ n1_; (try clear hb); (try clear hb2); (try clear hk); (try clear hi); (try clear ho0); obtain ⟨Ao6, co6, eo6⟩ := Kd.R_slice HO312.out; subst eo6))
      repeat (go_quiet (first | (go_at_call 17; (with_reducible refine (annexref3_Split.calls k a0 t309 t310 _ A2.out).mono ?_); rintro e w5 ⟨v311, rfl, ho0, hb⟩; have n0_ := Aside0.mk (Kd.R_lower ho0 (below_size (by repeat (first | (with_reducible first | exact HB.out | apply below_alloc | apply pw_below_drewN | apply below_drew1) | exact HB.out)))); have n1_ := Aside0.mk (below_step (by repeat (first | (with_reducible first | exact HB.out | apply below_alloc | apply pw_below_drewN | apply below_drew1) | exact HB.out)) hb); clear HB; have HO312 := n0_; have HB := n1_; clear n0_ n1_; (try clear hb); (try clear hb2); (try clear hk); (try clear hi); (try clear ho0); obtain ⟨Ao6, co6, eo6⟩ := Kd.R_slice HO312.out; subst eo6)); try go_wp2_with (first | (go_at_call 17; (with_reducible refine (annexref3_Split.calls k a0 t309 t310 _ A2.out).mono ?_); rintro e w5 ⟨v311, rfl, ho0, hb⟩; have n0_ := Aside0.mk (Kd.R_lower ho0 (below_size (by repeat (first | (with_reducible first | exact HB.out | apply below_alloc | apply pw_below_drewN | apply below_drew1) | exact HB.out)))); have n1_ := Aside0.mk (below_step (by repeat (first | (with_reducible first | exact HB.out | apply below_alloc | apply pw_below_drewN | apply below_drew1) | exact HB.out)) hb); clear HB; have HO312 := n0_; have HB := n1_; clear n0_ n1_; (try clear hb); (try clear hb2); (try clear hk); (try clear hi); (try clear ho0); obtain ⟨Ao6, co6, eo6⟩ := Kd.R_slice HO312.out; subst eo6)))
      go_ret3
      exact ⟨by first | rfl | (simp [errW_none, errW_some] <;> rfl) | (simp [*, errW_none, errW_some] <;> rfl), by repeat (first | (with_reducible first | exact HB.out | apply below_alloc | apply pw_below_drewN | apply below_drew1) | exact HB.out)⟩
    · rw [if_neg c4] at H
      have c4b0 : ((t309.length : Int) == 0) = false := beq_eq_false_iff_ne.mpr c4
      have c4b1 : ((t309.length : Int) != 0) = true := bne_iff_ne.mpr c4
      have c4b2 : ¬ (t309 = []) := fun h_ => c4 (by rw [h_]; rfl)
      obtain ⟨ji7, hji7⟩ : ∃ j_ : Int, (wrap64 ((t309.length : Int) - 1)) = j_ := ⟨_, rfl⟩
      replace H : (if 0 ≤ (ji7) then (if (ji7) ≤ (t309.length : Int) then ((annexref3_Join.f k (t309.take ((ji7) : Int).toNat)).bind fun bt317 => (if (ji7) < (t309.length : Int) then (some (bt317.1, rdOf ByteArray.empty t309 (ji7), 0)) else (none))) else (none)) else (none)) = some (r1, r2, r3) := by first | (rw [hji7] at H; exact H) | (simp only [hji7] at H ⊢; exact H)
      (try rw [hji7] at A2)
      have hji7w : (IntKind.i64.wrap ((t309.length : Int) - 1)) = ji7 := (i64_w _).trans hji7
      by_cases c8 : 0 ≤ (ji7)
      · rw [if_pos c8] at H
        have c8b0 := eq_true c8
        have c8b1 : decide (0 ≤ (ji7)) = true := decide_eq_true c8
        clear c8
        by_cases c9 : (ji7) ≤ (t309.length : Int)
        · rw [if_pos c9] at H
          have c9b0 := eq_true c9
          have c9b1 : decide ((ji7) ≤ (t309.length : Int)) = true := decide_eq_true c9
          clear c9
          obtain ⟨y313, hy313⟩ : ∃ y_ : List ByteArray, y_ = (t309.take ((ji7) : Int).toNat) := ⟨_, rfl⟩
          replace H : ((annexref3_Join.f k y313).bind fun bt317 => (if (ji7) < (t309.length : Int) then (some (bt317.1, rdOf ByteArray.empty t309 (ji7), 0)) else (none))) = some (r1, r2, r3) := by first | (rw [hy313]; with_reducible exact H) | (have H2_ := (Option.bind_some _ _).symm.trans H; rw [hy313]; with_reducible exact H2_) | (have H2_ := (Option.bind_some _ _).symm.trans H; with_reducible exact H2_) | with_reducible exact H | (rw [hy313]; exact H) | exact H
          have Ny313 := Aside0.mk hy313
          clear hy313
          replace H := Option.bind_eq_some_iff.mp H
          obtain ⟨⟨t317, t318⟩, A100, H⟩ := H
          replace H : (if (ji7) < (t309.length : Int) then (some (t317, rdOf ByteArray.empty t309 (ji7), 0)) else (none)) = some (r1, r2, r3) := H
          have A10 := Aside0.mk A100
          clear A100
          by_cases c11 : (ji7) < (t309.length : Int)
          · rw [if_pos c11] at H
            have c11b0 : decide ((ji7) < (t309.length : Int)) = true := decide_eq_true c11
            clear c11
            simp only [Option.some.injEq, Prod.mk.injEq] at H
            obtain ⟨rfl, rfl, rfl⟩ := H
            go_enter Try.func27, Try.ntmps27
            go_wp2_with (first | (go_at_call 17; (with_reducible refine (annexref3_Split.calls k a0 t309 t310 _ A2.out).mono ?_); rintro e w12 ⟨v311, rfl, ho0, hb⟩; have n0_ := Aside0.mk (Kd.R_lower ho0 (below_size (by repeat (first | (with_reducible first | exact HB.out | apply below_alloc | apply pw_below_drewN | apply below_drew1) | exact HB.out)))); have n1_ := Aside0.mk (below_step (by repeat (first | (with_reducible first | exact HB.out | apply below_alloc | apply pw_below_drewN | apply below_drew1) | exact HB.out)) hb); clear HB; have HO312 := n0_; have HB := n1_; clear n0_ n1_; (try clear hb); (try clear hb2); (try clear hk); (try clear hi); (try clear ho0); obtain ⟨Ao13, co13, eo13⟩ := Kd.R_slice HO312.out; subst eo13; have q14 : ((ji7) : Int) ≤ ((t309.length : Int) : Int) := of_decide_eq_true (by first | (with_reducible assumption) | assumption); obtain ⟨i014, hi014, _, hsz14, _⟩ := info_parts info9; have hroom14 : t309.length ≤ co13 := (Kd.R_reads' HO312.out).2.1; have hC14 : Kd.C Kd.string _ Ao13 t309.length t309 := (Kd.R_reads' HO312.out).2.2; have hcut14 := cut_to (P := Try.prog) 22 9 .i64 Try.underlying22 hi014 Ao13 t309.length co13 (ji7) (of_decide_eq_true (by first | (with_reducible assumption) | assumption)) q14 hroom14; have hr14 := Kd.C_take (m := ((ji7) : Int).toNat) hC14 (by omega); have hy14 : y313.length = ((ji7) : Int).toNat := (by rw [Ny313.out, List.length_take]; omega); rw [← Ny313.out] at hr14; rw [← hy14] at hcut14; have HR316 := Aside0.mk hr14; have HC316 := Aside0.mk (show y313.length ≤ co13 from by omega); clear hr14 hC14 hroom14 hi014 hsz14; have KY14 := Aside0.mk hy14; clear hy14; have KL14 := Aside0.mk (show ((ji7) : Int).toNat ≤ t309.length from by omega); replace q14 := eq_true q14) | (go_at_call 21; (with_reducible refine (annexref3_Join.calls k _ _ y313 t317 t318 _ ?side1 ?side2 A10.out).mono ?_); (case side1 => repeat (first | exact (by repeat (first | (with_reducible exact HR316.out) | (with_reducible refine Kd.C_alloc ?_ _) | (with_reducible refine Kd.C_drewN ?_ _) | (with_reducible refine Kd.C_drew ?_) | exact HR316.out)) | (with_reducible refine Kd.C_alloc ?_ _) | (with_reducible refine Kd.C_drewN ?_ _) | (with_reducible refine Kd.C_drew ?_))); (case side2 => exact HC316.out); rintro e w' ⟨rfl, ⟨nd, rfl⟩⟩; (try first | exact ⟨rfl, _, World.drewN_drewN _ _ _⟩ | exact ⟨rfl, _, Eq.trans (World.drewN_drewN _ _ _) (congrArg (World.drewN _) (Nat.add_assoc _ _ _))⟩); have p319 : 0 ≤ ((ji7) : Int) := of_decide_eq_true (by first | (with_reducible assumption) | assumption); have q319 : (ji7) < (t309.length : Int) := of_decide_eq_true (by first | (with_reducible assumption) | assumption); obtain ⟨ad319, e319, hx319_0⟩ := Kd.at_string (Kd.R_reads' HO312.out).2.2 (ji7) p319 q319; cases e319; replace p319 := eq_true p319; replace q319 := eq_true q319))
            repeat (go_quiet (first | (go_at_call 17; (with_reducible refine (annexref3_Split.calls k a0 t309 t310 _ A2.out).mono ?_); rintro e w12 ⟨v311, rfl, ho0, hb⟩; have n0_ := Aside0.mk (Kd.R_lower ho0 (below_size (by repeat (first | (with_reducible first | exact HB.out | apply below_alloc | apply pw_below_drewN | apply below_drew1) | exact HB.out)))); have n1_ := Aside0.mk (below_step (by repeat (first | (with_reducible first | exact HB.out | apply below_alloc | apply pw_below_drewN | apply below_drew1) | exact HB.out)) hb); clear HB; have HO312 := n0_; have HB := n1_; clear n0_ n1_; (try clear hb); (try clear hb2); (try clear hk); (try clear hi); (try clear ho0); obtain ⟨Ao13, co13, eo13⟩ := Kd.R_slice HO312.out; subst eo13; have q14 : ((ji7) : Int) ≤ ((t309.length : Int) : Int) := of_decide_eq_true (by first | (with_reducible assumption) | assumption); obtain ⟨i014, hi014, _, hsz14, _⟩ := info_parts info9; have hroom14 : t309.length ≤ co13 := (Kd.R_reads' HO312.out).2.1; have hC14 : Kd.C Kd.string _ Ao13 t309.length t309 := (Kd.R_reads' HO312.out).2.2; have hcut14 := cut_to (P := Try.prog) 22 9 .i64 Try.underlying22 hi014 Ao13 t309.length co13 (ji7) (of_decide_eq_true (by first | (with_reducible assumption) | assumption)) q14 hroom14; have hr14 := Kd.C_take (m := ((ji7) : Int).toNat) hC14 (by omega); have hy14 : y313.length = ((ji7) : Int).toNat := (by rw [Ny313.out, List.length_take]; omega); rw [← Ny313.out] at hr14; rw [← hy14] at hcut14; have HR316 := Aside0.mk hr14; have HC316 := Aside0.mk (show y313.length ≤ co13 from by omega); clear hr14 hC14 hroom14 hi014 hsz14; have KY14 := Aside0.mk hy14; clear hy14; have KL14 := Aside0.mk (show ((ji7) : Int).toNat ≤ t309.length from by omega); replace q14 := eq_true q14) | (go_at_call 21; (with_reducible refine (annexref3_Join.calls k _ _ y313 t317 t318 _ ?side1 ?side2 A10.out).mono ?_); (case side1 => repeat (first | exact (by repeat (first | (with_reducible exact HR316.out) | (with_reducible refine Kd.C_alloc ?_ _) | (with_reducible refine Kd.C_drewN ?_ _) | (with_reducible refine Kd.C_drew ?_) | exact HR316.out)) | (with_reducible refine Kd.C_alloc ?_ _) | (with_reducible refine Kd.C_drewN ?_ _) | (with_reducible refine Kd.C_drew ?_))); (case side2 => exact HC316.out); rintro e w' ⟨rfl, ⟨nd, rfl⟩⟩; (try first | exact ⟨rfl, _, World.drewN_drewN _ _ _⟩ | exact ⟨rfl, _, Eq.trans (World.drewN_drewN _ _ _) (congrArg (World.drewN _) (Nat.add_assoc _ _ _))⟩); have p319 : 0 ≤ ((ji7) : Int) := of_decide_eq_true (by first | (with_reducible assumption) | assumption); have q319 : (ji7) < (t309.length : Int) := of_decide_eq_true (by first | (with_reducible assumption) | assumption); obtain ⟨ad319, e319, hx319_0⟩ := Kd.at_string (Kd.R_reads' HO312.out).2.2 (ji7) p319 q319; cases e319; replace p319 := eq_true p319; replace q319 := eq_true q319)); try go_wp2_with (first | (go_at_call 17; (with_reducible refine (annexref3_Split.calls k a0 t309 t310 _ A2.out).mono ?_); rintro e w12 ⟨v311, rfl, ho0, hb⟩; have n0_ := Aside0.mk (Kd.R_lower ho0 (below_size (by repeat (first | (with_reducible first | exact HB.out | apply below_alloc | apply pw_below_drewN | apply below_drew1) | exact HB.out)))); have n1_ := Aside0.mk (below_step (by repeat (first | (with_reducible first | exact HB.out | apply below_alloc | apply pw_below_drewN | apply below_drew1) | exact HB.out)) hb); clear HB; have HO312 := n0_; have HB := n1_; clear n0_ n1_; (try clear hb); (try clear hb2); (try clear hk); (try clear hi); (try clear ho0); obtain ⟨Ao13, co13, eo13⟩ := Kd.R_slice HO312.out; subst eo13; have q14 : ((ji7) : Int) ≤ ((t309.length : Int) : Int) := of_decide_eq_true (by first | (with_reducible assumption) | assumption); obtain ⟨i014, hi014, _, hsz14, _⟩ := info_parts info9; have hroom14 : t309.length ≤ co13 := (Kd.R_reads' HO312.out).2.1; have hC14 : Kd.C Kd.string _ Ao13 t309.length t309 := (Kd.R_reads' HO312.out).2.2; have hcut14 := cut_to (P := Try.prog) 22 9 .i64 Try.underlying22 hi014 Ao13 t309.length co13 (ji7) (of_decide_eq_true (by first | (with_reducible assumption) | assumption)) q14 hroom14; have hr14 := Kd.C_take (m := ((ji7) : Int).toNat) hC14 (by omega); have hy14 : y313.length = ((ji7) : Int).toNat := (by rw [Ny313.out, List.length_take]; omega); rw [← Ny313.out] at hr14; rw [← hy14] at hcut14; have HR316 := Aside0.mk hr14; have HC316 := Aside0.mk (show y313.length ≤ co13 from by omega); clear hr14 hC14 hroom14 hi014 hsz14; have KY14 := Aside0.mk hy14; clear hy14; have KL14 := Aside0.mk (show ((ji7) : Int).toNat ≤ t309.length from by omega); replace q14 := eq_true q14) | (go_at_call 21; (with_reducible refine (annexref3_Join.calls k _ _ y313 t317 t318 _ ?side1 ?side2 A10.out).mono ?_); (case side1 => repeat (first | exact (by repeat (first | (with_reducible exact HR316.out) | (with_reducible refine Kd.C_alloc ?_ _) | (with_reducible refine Kd.C_drewN ?_ _) | (with_reducible refine Kd.C_drew ?_) | exact HR316.out)) | (with_reducible refine Kd.C_alloc ?_ _) | (with_reducible refine Kd.C_drewN ?_ _) | (with_reducible refine Kd.C_drew ?_))); (case side2 => exact HC316.out); rintro e w' ⟨rfl, ⟨nd, rfl⟩⟩; (try first | exact ⟨rfl, _, World.drewN_drewN _ _ _⟩ | exact ⟨rfl, _, Eq.trans (World.drewN_drewN _ _ _) (congrArg (World.drewN _) (Nat.add_assoc _ _ _))⟩); have p319 : 0 ≤ ((ji7) : Int) := of_decide_eq_true (by first | (with_reducible assumption) | assumption); have q319 : (ji7) < (t309.length : Int) := of_decide_eq_true (by first | (with_reducible assumption) | assumption); obtain ⟨ad319, e319, hx319_0⟩ := Kd.at_string (Kd.R_reads' HO312.out).2.2 (ji7) p319 q319; cases e319; replace p319 := eq_true p319; replace q319 := eq_true q319)))
            go_ret3
            exact ⟨by first | rfl | (simp [errW_none, errW_some] <;> rfl) | (simp only [← hji7]; first | rfl | (simp [errW_none, errW_some] <;> rfl)) | (simp [*, errW_none, errW_some] <;> rfl), by repeat (first | (with_reducible first | exact HB.out | apply below_alloc | apply pw_below_drewN | apply below_drew1) | exact HB.out)⟩
          · rw [if_neg c11] at H
            exact absurd H (by simp)
        · rw [if_neg c9] at H
          exact absurd H (by simp)
      · rw [if_neg c8] at H
        exact absurd H (by simp)
  · rw [if_neg c3] at H
    have c3b0 : (t310 == 0) = false := beq_eq_false_iff_ne.mpr c3
    have c3b1 : (t310 != 0) = true := bne_iff_ne.mpr c3
    simp only [Option.some.injEq, Prod.mk.injEq] at H
    obtain ⟨rfl, rfl, rfl⟩ := H
    go_enter Try.func27, Try.ntmps27
    go_wp2_with (first | (go_at_call 17; (with_reducible refine (annexref3_Split.calls k a0 t309 t310 _ A2.out).mono ?_); rintro e w15 ⟨v311, rfl, ho0, hb⟩; have n0_ := Aside0.mk (Kd.R_lower ho0 (below_size (by repeat (first | (with_reducible first | exact HB.out | apply below_alloc | apply pw_below_drewN | apply below_drew1) | exact HB.out)))); have n1_ := Aside0.mk (below_step (by repeat (first | (with_reducible first | exact HB.out | apply below_alloc | apply pw_below_drewN | apply below_drew1) | exact HB.out)) hb); clear HB; have HO312 := n0_; have HB := n1_; clear n0_ n1_; (try clear hb); (try clear hb2); (try clear hk); (try clear hi); (try clear ho0)))
    repeat (go_quiet (first | (go_at_call 17; (with_reducible refine (annexref3_Split.calls k a0 t309 t310 _ A2.out).mono ?_); rintro e w15 ⟨v311, rfl, ho0, hb⟩; have n0_ := Aside0.mk (Kd.R_lower ho0 (below_size (by repeat (first | (with_reducible first | exact HB.out | apply below_alloc | apply pw_below_drewN | apply below_drew1) | exact HB.out)))); have n1_ := Aside0.mk (below_step (by repeat (first | (with_reducible first | exact HB.out | apply below_alloc | apply pw_below_drewN | apply below_drew1) | exact HB.out)) hb); clear HB; have HO312 := n0_; have HB := n1_; clear n0_ n1_; (try clear hb); (try clear hb2); (try clear hk); (try clear hi); (try clear ho0))); try go_wp2_with (first | (go_at_call 17; (with_reducible refine (annexref3_Split.calls k a0 t309 t310 _ A2.out).mono ?_); rintro e w15 ⟨v311, rfl, ho0, hb⟩; have n0_ := Aside0.mk (Kd.R_lower ho0 (below_size (by repeat (first | (with_reducible first | exact HB.out | apply below_alloc | apply pw_below_drewN | apply below_drew1) | exact HB.out)))); have n1_ := Aside0.mk (below_step (by repeat (first | (with_reducible first | exact HB.out | apply below_alloc | apply pw_below_drewN | apply below_drew1) | exact HB.out)) hb); clear HB; have HO312 := n0_; have HB := n1_; clear n0_ n1_; (try clear hb); (try clear hb2); (try clear hk); (try clear hi); (try clear ho0))))
    go_ret3
    exact ⟨by first | rfl | (simp [errW_none, errW_some] <;> rfl) | (simp [*, errW_none, errW_some] <;> rfl), by repeat (first | (with_reducible first | exact HB.out | apply below_alloc | apply pw_below_drewN | apply below_drew1) | exact HB.out)⟩

end Go.Proofs.Ytbelfaoolnijiaa.PA
