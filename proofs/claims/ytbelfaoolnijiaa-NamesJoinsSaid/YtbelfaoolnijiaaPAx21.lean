-- Printed by a program of this session over the kit's print (some functions are told by hand). Not trusted: Lean checks it.
import Derived.Test.YtbelfaoolnijiaaPAx0
import Derived.Test.YtbelfaoolnijiaaPAx1
import Derived.Test.YtbelfaoolnijiaaPAx3
import Derived.Test.YtbelfaoolnijiaaPAx12
import Derived.Test.YtbelfaoolnijiaaPAx19
import Derived.Test.YtbelfaoolnijiaaPAx20
namespace Go.Proofs.Ytbelfaoolnijiaa.PA
open Go.RowKit Go.Proofs.Ytbelfaoolnijiaa Go.Proofs.YtbelfaoolnijiaaW.PrintWords Go.Proofs.YtbelfaoolnijiaaW.PrintLast Go.Proofs.YtbelfaoolnijiaaW.PrintMore
attribute [local go_sem] max2_int min2_int max_two min_two max_three min_three max_four min_four   -- for this text's walks alone
set_option linter.unusedVariables false
set_option linter.unusedSimpArgs false

/-! ### annexlaw3_NamesJoins: function 5 -/
mutual
def annexlaw3_NamesJoins.j0 : Nat → List ByteArray → List ByteArray → Bool → Option (Bool)
  | 0, _, _, _ => none
  | k + 1, x0, x4, x46 => if x46 = true then (some false) else (annexlaw3_NamesJoins.l0 k x0 x4 0)
def annexlaw3_NamesJoins.l0 : Nat → List ByteArray → List ByteArray → Int → Option (Bool)
  | 0, _, _, _ => none
  | k + 1, x0, x4, x10 => if x10 < (x0.length : Int) then ((some (([(wrap64 (97 + (Int.tmod x10 20))) % 256] : List Int) : List Int)).bind fun y182 => (if 1 + (strOfNums y182).size ≤ 9223372036854775807 then (if 0 ≤ x10 then (if x10 < (x4.length : Int) then (annexlaw3_NamesJoins.l0 k x0 (x4.set (x10 : Int).toNat ((⟨#[111]⟩ : ByteArray) ++ (strOfNums y182))) (wrap64 (x10 + 1))) else (none)) else (none)) else (none))) else (if 0 ≤ (x0.length : Int) then (if (x0.length : Int) ≤ (x4.length : Int) then ((names_Join.f (x4.take ((x0.length : Int) : Int).toNat)).bind fun bt190 => ((some (x4.take ((x0.length : Int) : Int).toNat : List ByteArray)).bind fun y192 => (if ([] : List ByteArray).length + y192.length < 8796093022208 then ((annexref3_Join.f k (([] : List ByteArray) ++ y192)).bind fun bt199 => (if bt190.1.toList = bt199.1.toList then ((annexlaw3_num.f bt190.2).bind fun t201 => (some (t201 == bt199.2))) else (some false))) else (none)))) else (none)) else (none))
end
def annexlaw3_NamesJoins.f (k : Nat) (l0 : List ByteArray) : Option (Bool) := (annexlaw3_first.f k).bind fun t165 => (if t165 = true then ((annexlaw3_roomy.f l0).bind fun t166 => (if 0 ≤ (l0.length : Int) then (if (l0.length : Int) ≤ (t166.length : Int) then ((names_Join.f (t166.take ((l0.length : Int) : Int).toNat)).bind fun bt173 => ((annexref3_Join.f k l0).bind fun bt175 => ((annexlaw3_roomy.f l0).bind fun t177 => ((annexref_SameTexts.f k t166 t177).bind fun t180 => (if t180 = true then (if bt173.1.toList = bt175.1.toList then ((annexlaw3_num.f bt173.2).bind fun t181 => (annexlaw3_NamesJoins.j0 k l0 t166 (t181 != bt175.2))) else (annexlaw3_NamesJoins.j0 k l0 t166 true)) else (annexlaw3_NamesJoins.j0 k l0 t166 true)))))) else (none)) else (none))) else (some false))
theorem annexlaw3_NamesJoins.mono_l : ∀ k, (∀ y0 y1 y2, LeO (annexlaw3_NamesJoins.j0 k y0 y1 y2) (annexlaw3_NamesJoins.j0 (k + 1) y0 y1 y2)) ∧ (∀ y0 y1 y2, LeO (annexlaw3_NamesJoins.l0 k y0 y1 y2) (annexlaw3_NamesJoins.l0 (k + 1) y0 y1 y2))
  | 0 => ⟨fun _ _ _ r h => by simp [annexlaw3_NamesJoins.j0] at h, fun _ _ _ r h => by simp [annexlaw3_NamesJoins.l0] at h⟩
  | k + 1 => by
    obtain ⟨ih0, ih1⟩ := annexlaw3_NamesJoins.mono_l k
    refine ⟨?_, ?_⟩
    · intro y0 y1 y2
      unfold annexlaw3_NamesJoins.j0
      repeat' first
      | (with_reducible exact ih0 _ _ _)
      | (with_reducible exact ih1 _ _ _)
      | (with_reducible exact annexlaw3_first.mono _)
      | (with_reducible exact annexref3_Join.mono _ _)
      | (with_reducible exact annexref_SameTexts.mono _ _ _)
      | (with_reducible exact LeO.refl _)
      | (with_reducible exact LeO.none _)
      | (with_reducible refine LeO.ite ?_ ?_)
      | (with_reducible refine LeO.bind ?_ (fun _ => ?_))
      | exact ih0 _ _ _
      | exact ih1 _ _ _
      | exact annexlaw3_first.mono _
      | exact annexref3_Join.mono _ _
      | exact annexref_SameTexts.mono _ _ _
      | exact LeO.none _
      | refine LeO.ite ?_ ?_
      | refine LeO.bind ?_ (fun _ => ?_)
    · intro y0 y1 y2
      unfold annexlaw3_NamesJoins.l0
      repeat' first
      | (with_reducible exact ih0 _ _ _)
      | (with_reducible exact ih1 _ _ _)
      | (with_reducible exact annexlaw3_first.mono _)
      | (with_reducible exact annexref3_Join.mono _ _)
      | (with_reducible exact annexref_SameTexts.mono _ _ _)
      | (with_reducible exact LeO.refl _)
      | (with_reducible exact LeO.none _)
      | (with_reducible refine LeO.ite ?_ ?_)
      | (with_reducible refine LeO.bind ?_ (fun _ => ?_))
      | exact ih0 _ _ _
      | exact ih1 _ _ _
      | exact annexlaw3_first.mono _
      | exact annexref3_Join.mono _ _
      | exact annexref_SameTexts.mono _ _ _
      | exact LeO.none _
      | refine LeO.ite ?_ ?_
      | refine LeO.bind ?_ (fun _ => ?_)
theorem annexlaw3_NamesJoins.mono : ∀ a0 k, LeO (annexlaw3_NamesJoins.f k a0) (annexlaw3_NamesJoins.f (k + 1) a0) := by
  intro a0 k
  obtain ⟨ih0, ih1⟩ := annexlaw3_NamesJoins.mono_l k
  unfold annexlaw3_NamesJoins.f
  repeat' first
      | (with_reducible exact ih0 _ _ _)
      | (with_reducible exact ih1 _ _ _)
      | (with_reducible exact annexlaw3_first.mono _)
      | (with_reducible exact annexref3_Join.mono _ _)
      | (with_reducible exact annexref_SameTexts.mono _ _ _)
      | (with_reducible exact LeO.refl _)
      | (with_reducible exact LeO.none _)
      | (with_reducible refine LeO.ite ?_ ?_)
      | (with_reducible refine LeO.bind ?_ (fun _ => ?_))
      | exact ih0 _ _ _
      | exact ih1 _ _ _
      | exact annexlaw3_first.mono _
      | exact annexref3_Join.mono _ _
      | exact annexref_SameTexts.mono _ _ _
      | exact LeO.none _
      | refine LeO.ite ?_ ?_
      | refine LeO.bind ?_ (fun _ => ?_)
set_option maxHeartbeats 8000000 in
set_option maxRecDepth 100000 in
theorem annexlaw3_NamesJoins.calls (k : Nat) (A0 : Option Addr) (c0 : Nat) (l0 : List ByteArray) (r : Bool) (w : World) (hr0 : Kd.C Kd.string w A0 l0.length l0) (hc0 : l0.length ≤ c0) (h : annexlaw3_NamesJoins.f k l0 = some r) :
    Calls Try.prog 5 #[.slice A0 l0.length c0] w fun e w' => e = .returned (.bool r) ∧ Below w.heap.size w w' := by
  have HR0 := Aside0.mk hr0
  have HC0 := Aside0.mk hc0
  clear hr0 hc0
  have HB := Aside0.mk (Below.refl w.heap.size w)
  have H : ((annexlaw3_first.f k).bind fun t165 => (if t165 = true then ((annexlaw3_roomy.f l0).bind fun t166 => (if 0 ≤ (l0.length : Int) then (if (l0.length : Int) ≤ (t166.length : Int) then ((names_Join.f (t166.take ((l0.length : Int) : Int).toNat)).bind fun bt173 => ((annexref3_Join.f k l0).bind fun bt175 => ((annexlaw3_roomy.f l0).bind fun t177 => ((annexref_SameTexts.f k t166 t177).bind fun t180 => (if t180 = true then (if bt173.1.toList = bt175.1.toList then ((annexlaw3_num.f bt173.2).bind fun t181 => (annexlaw3_NamesJoins.j0 k l0 t166 (t181 != bt175.2))) else (annexlaw3_NamesJoins.j0 k l0 t166 true)) else (annexlaw3_NamesJoins.j0 k l0 t166 true)))))) else (none)) else (none))) else (some false))) = some r := h
  clear h
  replace H := Option.bind_eq_some_iff.mp H
  obtain ⟨t165, A20, H⟩ := H
  replace H : (if t165 = true then ((annexlaw3_roomy.f l0).bind fun t166 => (if 0 ≤ (l0.length : Int) then (if (l0.length : Int) ≤ (t166.length : Int) then ((names_Join.f (t166.take ((l0.length : Int) : Int).toNat)).bind fun bt173 => ((annexref3_Join.f k l0).bind fun bt175 => ((annexlaw3_roomy.f l0).bind fun t177 => ((annexref_SameTexts.f k t166 t177).bind fun t180 => (if t180 = true then (if bt173.1.toList = bt175.1.toList then ((annexlaw3_num.f bt173.2).bind fun t181 => (annexlaw3_NamesJoins.j0 k l0 t166 (t181 != bt175.2))) else (annexlaw3_NamesJoins.j0 k l0 t166 true)) else (annexlaw3_NamesJoins.j0 k l0 t166 true)))))) else (none)) else (none))) else (some false)) = some r := H
  have A2 := Aside0.mk A20
  clear A20
  by_cases c3 : t165 = true
  · subst c3
    have H1 : ((annexlaw3_roomy.f l0).bind fun t166 => (if 0 ≤ (l0.length : Int) then (if (l0.length : Int) ≤ (t166.length : Int) then ((names_Join.f (t166.take ((l0.length : Int) : Int).toNat)).bind fun bt173 => ((annexref3_Join.f k l0).bind fun bt175 => ((annexlaw3_roomy.f l0).bind fun t177 => ((annexref_SameTexts.f k t166 t177).bind fun t180 => (if t180 = true then (if bt173.1.toList = bt175.1.toList then ((annexlaw3_num.f bt173.2).bind fun t181 => (annexlaw3_NamesJoins.j0 k l0 t166 (t181 != bt175.2))) else (annexlaw3_NamesJoins.j0 k l0 t166 true)) else (annexlaw3_NamesJoins.j0 k l0 t166 true)))))) else (none)) else (none))) = some r := by rw [if_pos rfl] at H; exact H
    clear H
    have H := H1
    clear H1
    replace H := Option.bind_eq_some_iff.mp H
    obtain ⟨t166, A40, H⟩ := H
    replace H : (if 0 ≤ (l0.length : Int) then (if (l0.length : Int) ≤ (t166.length : Int) then ((names_Join.f (t166.take ((l0.length : Int) : Int).toNat)).bind fun bt173 => ((annexref3_Join.f k l0).bind fun bt175 => ((annexlaw3_roomy.f l0).bind fun t177 => ((annexref_SameTexts.f k t166 t177).bind fun t180 => (if t180 = true then (if bt173.1.toList = bt175.1.toList then ((annexlaw3_num.f bt173.2).bind fun t181 => (annexlaw3_NamesJoins.j0 k l0 t166 (t181 != bt175.2))) else (annexlaw3_NamesJoins.j0 k l0 t166 true)) else (annexlaw3_NamesJoins.j0 k l0 t166 true)))))) else (none)) else (none)) = some r := H
    have A4 := Aside0.mk A40
    clear A40
    by_cases c5 : 0 ≤ (l0.length : Int)
    · rw [if_pos c5] at H
      have c5b0 := eq_true c5
      have c5b1 : decide (0 ≤ (l0.length : Int)) = true := decide_eq_true c5
      clear c5
      by_cases c6 : (l0.length : Int) ≤ (t166.length : Int)
      · rw [if_pos c6] at H
        have c6b0 := eq_true c6
        have c6b1 : decide ((l0.length : Int) ≤ (t166.length : Int)) = true := decide_eq_true c6
        clear c6
        obtain ⟨y169, hy169⟩ : ∃ y_ : List ByteArray, y_ = (t166.take ((l0.length : Int) : Int).toNat) := ⟨_, rfl⟩
        replace H : ((names_Join.f y169).bind fun bt173 => ((annexref3_Join.f k l0).bind fun bt175 => ((annexlaw3_roomy.f l0).bind fun t177 => ((annexref_SameTexts.f k t166 t177).bind fun t180 => (if t180 = true then (if bt173.1.toList = bt175.1.toList then ((annexlaw3_num.f bt173.2).bind fun t181 => (annexlaw3_NamesJoins.j0 k l0 t166 (t181 != bt175.2))) else (annexlaw3_NamesJoins.j0 k l0 t166 true)) else (annexlaw3_NamesJoins.j0 k l0 t166 true)))))) = some r := by first | (rw [hy169]; with_reducible exact H) | (have H2_ := (Option.bind_some _ _).symm.trans H; rw [hy169]; with_reducible exact H2_) | (have H2_ := (Option.bind_some _ _).symm.trans H; with_reducible exact H2_) | with_reducible exact H | (rw [hy169]; exact H) | exact H
        have Ny169 := Aside0.mk hy169
        clear hy169
        replace H := Option.bind_eq_some_iff.mp H
        obtain ⟨⟨t173, t174⟩, A70, H⟩ := H
        replace H : ((annexref3_Join.f k l0).bind fun bt175 => ((annexlaw3_roomy.f l0).bind fun t177 => ((annexref_SameTexts.f k t166 t177).bind fun t180 => (if t180 = true then (if t173.toList = bt175.1.toList then ((annexlaw3_num.f t174).bind fun t181 => (annexlaw3_NamesJoins.j0 k l0 t166 (t181 != bt175.2))) else (annexlaw3_NamesJoins.j0 k l0 t166 true)) else (annexlaw3_NamesJoins.j0 k l0 t166 true))))) = some r := H
        have A7 := Aside0.mk A70
        clear A70
        replace H := Option.bind_eq_some_iff.mp H
        obtain ⟨⟨t175, t176⟩, A80, H⟩ := H
        replace H : ((annexlaw3_roomy.f l0).bind fun t177 => ((annexref_SameTexts.f k t166 t177).bind fun t180 => (if t180 = true then (if t173.toList = t175.toList then ((annexlaw3_num.f t174).bind fun t181 => (annexlaw3_NamesJoins.j0 k l0 t166 (t181 != t176))) else (annexlaw3_NamesJoins.j0 k l0 t166 true)) else (annexlaw3_NamesJoins.j0 k l0 t166 true)))) = some r := H
        have A8 := Aside0.mk A80
        clear A80
        replace H := Option.bind_eq_some_iff.mp H
        obtain ⟨t177, A90, H⟩ := H
        replace H : ((annexref_SameTexts.f k t166 t177).bind fun t180 => (if t180 = true then (if t173.toList = t175.toList then ((annexlaw3_num.f t174).bind fun t181 => (annexlaw3_NamesJoins.j0 k l0 t166 (t181 != t176))) else (annexlaw3_NamesJoins.j0 k l0 t166 true)) else (annexlaw3_NamesJoins.j0 k l0 t166 true))) = some r := H
        have A9 := Aside0.mk A90
        clear A90
        replace H := Option.bind_eq_some_iff.mp H
        obtain ⟨t180, A100, H⟩ := H
        replace H : (if t180 = true then (if t173.toList = t175.toList then ((annexlaw3_num.f t174).bind fun t181 => (annexlaw3_NamesJoins.j0 k l0 t166 (t181 != t176))) else (annexlaw3_NamesJoins.j0 k l0 t166 true)) else (annexlaw3_NamesJoins.j0 k l0 t166 true)) = some r := H
        have A10 := Aside0.mk A100
        clear A100
        have HC11 := Aside0.mk H
        clear H
        go_enter Try.func5, Try.ntmps5
        go_upto_region 8 with (first | ((with_reducible refine gate_callee (f := 12) rfl ?_); refine goesL_ (some 12) rfl rfl Try.func12 (by kernel_rfl) rfl #[] rfl (by (try simp only [List.map_toArray, List.map_cons, List.map_nil]); first | done | rfl | (simp only [List.length_drop, List.length_take]; rfl)) ?_; (with_reducible refine (annexlaw3_first.calls k  true _ A2.out).mono ?_); rintro e w12 ⟨rfl, hb⟩; refine ⟨_, rfl, ?_⟩; have n0_ := Aside0.mk (below_step (by repeat (first | (with_reducible first | exact HB.out | apply below_alloc | apply pw_below_drewN | apply below_drew1) | exact HB.out)) hb); clear HB; have HB := n0_; clear n0_; (try clear hb); (try clear hb2); (try clear hk); (try clear hi)) | ((with_reducible refine gate_callee (f := 19) rfl ?_); refine goesL_ (some 16) rfl rfl Try.func19 (by kernel_rfl) rfl #[.slice A0 l0.length c0] rfl (by (try simp only [List.map_toArray, List.map_cons, List.map_nil]); first | done | rfl | (simp only [List.length_drop, List.length_take]; rfl)) ?_; (with_reducible refine (annexlaw3_roomy.calls _ _ l0 t166 _ ?side1 ?side2 A4.out).mono ?_); (case side1 => repeat (first | exact (Kd.C_below HR0.out HB.out) | (with_reducible refine Kd.C_alloc ?_ _) | (with_reducible refine Kd.C_drewN ?_ _) | (with_reducible refine Kd.C_drew ?_))); (case side2 => exact HC0.out); rintro e w13 ⟨v167, rfl, ho0, hb⟩; refine ⟨_, rfl, ?_⟩; have n0_ := Aside0.mk (Kd.R_lower ho0 (below_size (by repeat (first | (with_reducible first | exact HB.out | apply below_alloc | apply pw_below_drewN | apply below_drew1) | exact HB.out)))); have n1_ := Aside0.mk (below_step (by repeat (first | (with_reducible first | exact HB.out | apply below_alloc | apply pw_below_drewN | apply below_drew1) | exact HB.out)) hb); clear HB; have HO168 := n0_; have HB := n1_; clear n0_ n1_; (try clear hb); (try clear hb2); (try clear hk); (try clear hi); (try clear ho0); obtain ⟨Ao15, co15, eo15⟩ := Kd.R_slice HO168.out; subst eo15; have q14 : ((l0.length : Int) : Int) ≤ ((t166.length : Int) : Int) := of_decide_eq_true (by first | (with_reducible assumption) | assumption); obtain ⟨i014, hi014, _, hsz14, _⟩ := info_parts info9; have hroom14 : t166.length ≤ co15 := (Kd.R_reads' HO168.out).2.1; have hC14 : Kd.C Kd.string _ Ao15 t166.length t166 := (Kd.R_reads' HO168.out).2.2; have hcut14 := cut_to (P := Try.prog) 22 9 .i64 Try.underlying22 hi014 Ao15 t166.length co15 (l0.length : Int) (of_decide_eq_true (by first | (with_reducible assumption) | assumption)) q14 hroom14; have hr14 := Kd.C_take (m := ((l0.length : Int) : Int).toNat) hC14 (by omega); have hy14 : y169.length = ((l0.length : Int) : Int).toNat := (by rw [Ny169.out, List.length_take]; omega); rw [← Ny169.out] at hr14; rw [← hy14] at hcut14; have HR172 := Aside0.mk hr14; have HC172 := Aside0.mk (show y169.length ≤ co15 from by omega); clear hr14 hC14 hroom14 hi014 hsz14; have KY14 := Aside0.mk hy14; clear hy14; have KL14 := Aside0.mk (show ((l0.length : Int) : Int).toNat ≤ t166.length from by omega); replace q14 := eq_true q14) | ((with_reducible refine gate_callee (f := 20) rfl ?_); refine goesL_ (some 22) rfl rfl Try.func20 (by kernel_rfl) rfl #[.slice Ao15 y169.length co15] rfl (by (try simp only [List.map_toArray, List.map_cons, List.map_nil]); first | done | rfl | (simp only [List.length_drop, List.length_take]; rfl)) ?_; (with_reducible refine (names_Join.calls _ _ y169 t173 t174 _ ?side1 ?side2 A7.out).mono ?_); (case side1 => repeat (first | exact (by repeat (first | (with_reducible exact HR172.out) | (with_reducible refine Kd.C_alloc ?_ _) | (with_reducible refine Kd.C_drewN ?_ _) | (with_reducible refine Kd.C_drew ?_) | exact HR172.out)) | (with_reducible refine Kd.C_alloc ?_ _) | (with_reducible refine Kd.C_drewN ?_ _) | (with_reducible refine Kd.C_drew ?_))); (case side2 => exact HC172.out); rintro e w16 ⟨rfl, hb⟩; refine ⟨_, rfl, ?_⟩; have n0_ := Aside0.mk (Kd.R_below (by (with_reducible repeat (first | apply Kd.R_alloc | apply Kd.R_drewN | apply Kd.R_drew)); exact HO168.out) hb); have n1_ := Aside0.mk (Kd.C_below (by repeat (first | (with_reducible exact HR172.out) | (with_reducible refine Kd.C_alloc ?_ _) | (with_reducible refine Kd.C_drewN ?_ _) | (with_reducible refine Kd.C_drew ?_) | exact HR172.out)) hb); have n2_ := Aside0.mk (below_step (by repeat (first | (with_reducible first | exact HB.out | apply below_alloc | apply pw_below_drewN | apply below_drew1) | exact HB.out)) hb); clear HO168; clear HR172; clear HB; have HO168 := n0_; have HR172 := n1_; have HB := n2_; clear n0_ n1_ n2_; (try clear hb); (try clear hb2); (try clear hk); (try clear hi)) | ((with_reducible refine gate_callee (f := 21) rfl ?_); refine goesL_ (some 27) rfl rfl Try.func21 (by kernel_rfl) rfl #[.slice A0 l0.length c0] rfl (by (try simp only [List.map_toArray, List.map_cons, List.map_nil]); first | done | rfl | (simp only [List.length_drop, List.length_take]; rfl)) ?_; (with_reducible refine (annexref3_Join.calls k _ _ l0 t175 t176 _ ?side1 ?side2 A8.out).mono ?_); (case side1 => repeat (first | exact (Kd.C_below HR0.out HB.out) | (with_reducible refine Kd.C_alloc ?_ _) | (with_reducible refine Kd.C_drewN ?_ _) | (with_reducible refine Kd.C_drew ?_))); (case side2 => exact HC0.out); rintro e w' ⟨rfl, ⟨nd, rfl⟩⟩; refine ⟨_, rfl, ?_⟩) | ((with_reducible refine gate_callee (f := 19) rfl ?_); refine goesL_ (some 32) rfl rfl Try.func19 (by kernel_rfl) rfl #[.slice A0 l0.length c0] rfl (by (try simp only [List.map_toArray, List.map_cons, List.map_nil]); first | done | rfl | (simp only [List.length_drop, List.length_take]; rfl)) ?_; (with_reducible refine (annexlaw3_roomy.calls _ _ l0 t177 _ ?side1 ?side2 A9.out).mono ?_); (case side1 => repeat (first | exact (Kd.C_below HR0.out (by repeat (first | (with_reducible first | exact HB.out | apply below_alloc | apply pw_below_drewN | apply below_drew1) | exact HB.out))) | (with_reducible refine Kd.C_alloc ?_ _) | (with_reducible refine Kd.C_drewN ?_ _) | (with_reducible refine Kd.C_drew ?_))); (case side2 => exact HC0.out); rintro e w17 ⟨v178, rfl, ho0, hb⟩; refine ⟨_, rfl, ?_⟩; have n0_ := Aside0.mk (Kd.R_elder' (by (with_reducible repeat (first | apply Kd.R_alloc | apply Kd.R_drewN | apply Kd.R_drew)); exact HO168.out) (Kd.R_base ho0) hb); have n1_ := Aside0.mk (Kd.R_lower (Kd.R_new' ho0 (Kd.R_lt (by (with_reducible repeat (first | apply Kd.R_alloc | apply Kd.R_drewN | apply Kd.R_drew)); exact HO168.out))) (below_size (by repeat (first | (with_reducible first | exact HB.out | apply below_alloc | apply pw_below_drewN | apply below_drew1) | exact HB.out)))); have n2_ := Aside0.mk (Kd.C_below (by repeat (first | (with_reducible exact HR172.out) | (with_reducible refine Kd.C_alloc ?_ _) | (with_reducible refine Kd.C_drewN ?_ _) | (with_reducible refine Kd.C_drew ?_) | exact HR172.out)) hb); have n3_ := Aside0.mk (below_step (by repeat (first | (with_reducible first | exact HB.out | apply below_alloc | apply pw_below_drewN | apply below_drew1) | exact HB.out)) hb); clear HO168; clear HR172; clear HB; have HO168 := n0_; have HO179 := n1_; have HR172 := n2_; have HB := n3_; clear n0_ n1_ n2_ n3_; (try clear hb); (try clear hb2); (try clear hk); (try clear hi); (try clear ho0); obtain ⟨Ao18, co18, eo18⟩ := Kd.R_slice HO179.out; subst eo18) | ((with_reducible refine gate_callee (f := 18) rfl ?_); refine goesL_ (some 33) rfl rfl Try.func18 (by kernel_rfl) rfl #[.slice Ao15 t166.length co15, .slice Ao18 t177.length co18] rfl (by (try simp only [List.map_toArray, List.map_cons, List.map_nil]); first | done | rfl | (simp only [List.length_drop, List.length_take]; rfl)) ?_; (with_reducible refine (annexref_SameTexts.calls k _ _ t166 _ _ t177 t180 _ ?side1 ?side2 ?side3 ?side4 A10.out).mono ?_); (case side1 => repeat (first | exact (Kd.R_reads' HO168.out).2.2 | (with_reducible refine Kd.C_alloc ?_ _) | (with_reducible refine Kd.C_drewN ?_ _) | (with_reducible refine Kd.C_drew ?_))); (case side2 => exact (Kd.R_reads' HO168.out).2.1); (case side3 => repeat (first | exact (Kd.R_reads' HO179.out).2.2 | (with_reducible refine Kd.C_alloc ?_ _) | (with_reducible refine Kd.C_drewN ?_ _) | (with_reducible refine Kd.C_drew ?_))); (case side4 => exact (Kd.R_reads' HO179.out).2.1); rintro e w' ⟨rfl, ⟨nd, rfl⟩⟩; refine ⟨_, rfl, ?_⟩))
        (try simp only [Act.put, List.setIfInBounds_toArray, List.set_cons_zero, List.set_cons_succ])
        go_cut [46] (fun v46 wc => ∃ (kq : Nat) (x46_10 : Bool), v46 = .bool x46_10 ∧ Aside0 (annexlaw3_NamesJoins.j0 kq l0 t166 x46_10 = some r) ∧ Aside0 (kq ≤ k) ∧ Aside0 (Kd.R Kd.string 9 wc w.heap.size (fun _ => True) (.slice Ao15 t166.length co15) t166) ∧ Aside0 (Kd.C Kd.string wc Ao15 y169.length y169) ∧ Aside0 (Below w.heap.size w wc))
        case first =>
          have H := HC11.out
          clear HC11
          by_cases c19 : t180 = true
          · subst c19
            have H1 : (if t173.toList = t175.toList then ((annexlaw3_num.f t174).bind fun t181 => (annexlaw3_NamesJoins.j0 k l0 t166 (t181 != t176))) else (annexlaw3_NamesJoins.j0 k l0 t166 true)) = some r := by rw [if_pos rfl] at H; exact H
            clear H
            have H := H1
            clear H1
            by_cases c20 : t173.toList = t175.toList
            · rw [if_pos c20] at H
              have c20b0 : (t173.toList == t175.toList) = true := beq_iff_eq.mpr c20
              have c20b1 : (t173.toList != t175.toList) = false := bne_eq_false_iff_eq.mpr c20
              clear c20
              (first | rw [c20b0] | (simp only [i64_w, i32_w]; rw [c20b0]) | skip)
              replace H := Option.bind_eq_some_iff.mp H
              obtain ⟨t181, A210, H⟩ := H
              replace H : (annexlaw3_NamesJoins.j0 k l0 t166 (t181 != t176)) = some r := H
              have A21 := Aside0.mk A210
              clear A210
              have H' := Aside0.mk H
              clear H
              go_wp2_with (first | (go_at_call 15; (with_reducible refine (annexlaw3_num.calls t174 t181 _ A21.out).mono ?_); rintro e w' ⟨rfl, ⟨nd, rfl⟩⟩))
              go_meet
              case rel => exact ⟨_, ((t181 != t176)), (by first | rfl | (simp; done) | (simp [*]; done)), H', ⟨by first | omega | exact Nat.le_refl _⟩, ⟨by (with_reducible repeat (first | apply Kd.R_alloc | apply Kd.R_drewN | apply Kd.R_drew)); exact Kd.R_mono HO168.out (fun _ hk => trivial)⟩, ⟨by repeat (first | (with_reducible exact HR172.out) | (with_reducible refine Kd.C_alloc ?_ _) | (with_reducible refine Kd.C_drewN ?_ _) | (with_reducible refine Kd.C_drew ?_) | exact HR172.out)⟩, ⟨by repeat (first | (with_reducible first | exact HB.out | apply below_alloc | apply pw_below_drewN | apply below_drew1) | exact HB.out)⟩⟩
            · rw [if_neg c20] at H
              have c20b0 : (t173.toList == t175.toList) = false := beq_eq_false_iff_ne.mpr c20
              have c20b1 : (t173.toList != t175.toList) = true := bne_iff_ne.mpr c20
              (first | rw [c20b0] | (simp only [i64_w, i32_w]; rw [c20b0]) | skip)
              have H' := Aside0.mk H
              clear H
              go_wp2
              go_meet
              case rel => exact ⟨_, (true), (by first | rfl | (simp; done) | (simp [*]; done)), H', ⟨by first | omega | exact Nat.le_refl _⟩, ⟨by (with_reducible repeat (first | apply Kd.R_alloc | apply Kd.R_drewN | apply Kd.R_drew)); exact Kd.R_mono HO168.out (fun _ hk => trivial)⟩, ⟨by repeat (first | (with_reducible exact HR172.out) | (with_reducible refine Kd.C_alloc ?_ _) | (with_reducible refine Kd.C_drewN ?_ _) | (with_reducible refine Kd.C_drew ?_) | exact HR172.out)⟩, ⟨by repeat (first | (with_reducible first | exact HB.out | apply below_alloc | apply pw_below_drewN | apply below_drew1) | exact HB.out)⟩⟩
          · replace c19 := Bool.eq_false_iff.mpr c19
            subst c19
            have H1 : (annexlaw3_NamesJoins.j0 k l0 t166 true) = some r := by rw [if_neg (show ¬ (false = true) by decide)] at H; exact H
            clear H
            have H := H1
            clear H1
            have H' := Aside0.mk H
            clear H
            go_wp2
            go_meet
            case rel => exact ⟨_, (true), (by first | rfl | (simp; done) | (simp [*]; done)), H', ⟨by first | omega | exact Nat.le_refl _⟩, ⟨by (with_reducible repeat (first | apply Kd.R_alloc | apply Kd.R_drewN | apply Kd.R_drew)); exact Kd.R_mono HO168.out (fun _ hk => trivial)⟩, ⟨by repeat (first | (with_reducible exact HR172.out) | (with_reducible refine Kd.C_alloc ?_ _) | (with_reducible refine Kd.C_drewN ?_ _) | (with_reducible refine Kd.C_drew ?_) | exact HR172.out)⟩, ⟨by repeat (first | (with_reducible first | exact HB.out | apply below_alloc | apply pw_below_drewN | apply below_drew1) | exact HB.out)⟩⟩
        case rest =>
          clear HC11
          try clear c1
          try clear q1
          try clear c2
          try clear p2
          try clear c3
          try clear c5
          try clear c5b0
          try clear c5b1
          try clear c6
          try clear c6b0
          try clear c6b1
          try clear c12
          try clear q14
          try clear c18
          try clear c19
          try clear c20
          try clear c20b0
          try clear c20b1
          try clear c21
          try clear q14
          obtain ⟨kq, x46_10, rfl, HA, HJ10, HO_4, HR172, HB⟩ := hcut
          cases kq with
          | zero => exact absurd HA.out (by simp [annexlaw3_NamesJoins.j0])
          | succ kj10 =>
            have H := HA.out
            clear HA
            simp only [annexlaw3_NamesJoins.j0] at H
            by_cases c22 : x46_10 = true
            · subst c22
              have H1 : (some false) = some r := by rw [if_pos rfl] at H; exact H
              clear H
              have H := H1
              clear H1
              obtain rfl := Option.some.inj H
              go_wp2
              go_ret
              exact ⟨by first | rfl | (simp [errW_none, errW_some] <;> rfl) | (simp [*, errW_none, errW_some] <;> rfl), by repeat (first | (with_reducible first | exact HB.out | apply below_alloc | apply pw_below_drewN | apply below_drew1) | exact HB.out)⟩
            · replace c22 := Bool.eq_false_iff.mpr c22
              subst c22
              have H1 : (annexlaw3_NamesJoins.l0 kj10 l0 t166 0) = some r := by rw [if_neg (show ¬ (false = true) by decide)] at H; exact H
              clear H
              have H := H1
              clear H1
              have H' := Aside0.mk H
              clear H
              go_wp2
              go_loopg [10] kj10 (fun kq v10 w' => ∃ (x4_2 : List ByteArray) (x10_2 : Int), v10 = .int .i64 x10_2 ∧ Aside0 (annexlaw3_NamesJoins.l0 kq l0 x4_2 x10_2 = some r) ∧ Aside0 (kq ≤ kj10) ∧ Aside0 (Kd.R Kd.string 9 w' w.heap.size (fun _ => True) (.slice Ao15 t166.length co15) x4_2) ∧ Aside0 (Below w.heap.size w w'))
              case atStart => exact ⟨(t166), (0), (by first | rfl | (simp; done) | (simp [*]; done)), H', ⟨Nat.le_refl _⟩, ⟨by (with_reducible repeat (first | apply Kd.R_alloc | apply Kd.R_drewN | apply Kd.R_drew)); exact HO_4.out⟩, ⟨by repeat (first | (with_reducible first | exact HB.out | apply below_alloc | apply pw_below_drewN | apply below_drew1) | exact HB.out)⟩⟩
              case round =>
                clear H'
                try clear c1
                try clear q1
                try clear c2
                try clear p2
                try clear c3
                try clear c5
                try clear c5b0
                try clear c5b1
                try clear c6
                try clear c6b0
                try clear c6b1
                try clear c12
                try clear q14
                try clear c18
                try clear c19
                try clear c20
                try clear c20b0
                try clear c20b1
                try clear c21
                try clear c22
                try clear p2
                try clear q1
                try clear q14
                obtain ⟨x4_2, x10_2, rfl, HA, HK2, HO_4, HB⟩ := hrel
                have hl4_2 := (Kd.R_reads' HO_4.out).1
                rw [hl4_2] at HO_4
                (try simp only [hl4_2])
                cases gk with
                | zero => exact absurd HA.out (by simp [annexlaw3_NamesJoins.l0])
                | succ k2 =>
                  have H := HA.out
                  clear HA
                  simp only [annexlaw3_NamesJoins.l0] at H
                  by_cases c23 : x10_2 < (l0.length : Int)
                  · rw [if_pos c23] at H
                    have c23b0 : decide (x10_2 < (l0.length : Int)) = true := decide_eq_true c23
                    clear c23
                    obtain ⟨y182, hy182⟩ : ∃ y_ : List Int, y_ = (([(wrap64 (97 + (Int.tmod x10_2 20))) % 256] : List Int)) := ⟨_, rfl⟩
                    replace H : (if 1 + (strOfNums y182).size ≤ 9223372036854775807 then (if 0 ≤ x10_2 then (if x10_2 < (x4_2.length : Int) then (annexlaw3_NamesJoins.l0 k2 l0 (x4_2.set (x10_2 : Int).toNat ((⟨#[111]⟩ : ByteArray) ++ (strOfNums y182))) (wrap64 (x10_2 + 1))) else (none)) else (none)) else (none)) = some r := by first | (rw [hy182]; with_reducible exact H) | (have H2_ := (Option.bind_some _ _).symm.trans H; rw [hy182]; with_reducible exact H2_) | (have H2_ := (Option.bind_some _ _).symm.trans H; with_reducible exact H2_) | with_reducible exact H | (rw [hy182]; exact H) | exact H
                    have Ny182 := Aside0.mk hy182
                    clear hy182
                    by_cases c24 : 1 + (strOfNums y182).size ≤ 9223372036854775807
                    · rw [if_pos c24] at H
                      have c24b0 := eq_true c24
                      have c24b1 : decide (1 + (strOfNums y182).size ≤ 9223372036854775807) = true := decide_eq_true c24
                      try have c24b2 : (9223372036854775807 < 1 + (strOfNums y182).size) = False := eq_false (Nat.not_lt.2 c24)
                      by_cases c25 : 0 ≤ x10_2
                      · rw [if_pos c25] at H
                        have c25b0 : decide (0 ≤ x10_2) = true := decide_eq_true c25
                        clear c25
                        by_cases c26 : x10_2 < (x4_2.length : Int)
                        · rw [if_pos c26] at H
                          have c26b0 : decide (x10_2 < (x4_2.length : Int)) = true := decide_eq_true c26
                          clear c26
                          obtain ⟨y185, hy185⟩ : ∃ y_ : List ByteArray, y_ = (x4_2.set (x10_2 : Int).toNat ((⟨#[111]⟩ : ByteArray) ++ (strOfNums y182))) := ⟨_, rfl⟩
                          replace H : (annexlaw3_NamesJoins.l0 k2 l0 y185 (wrap64 (x10_2 + 1))) = some r := by first | (rw [hy185]; with_reducible exact H) | (have H2_ := (Option.bind_some _ _).symm.trans H; rw [hy185]; with_reducible exact H2_) | (have H2_ := (Option.bind_some _ _).symm.trans H; with_reducible exact H2_) | with_reducible exact H | (rw [hy185]; exact H) | exact H
                          have Ny185 := Aside0.mk hy185
                          clear hy185
                          have H' := Aside0.mk H
                          clear H
                          go_wp2_with (first | ((with_reducible refine gate_dst (N := 59) rfl ?_); refine Kd.R_lit (Kd.int .u8) _ 5 ?hg (N := 59) ?hd (xs := ([(wrap64 (97 + (Int.tmod x10_2 20))) % 256] : List Int)) (inner := [.int .u8 ((wrap64 (97 + (Int.tmod x10_2 20))) % 256)]) (ok := fun _ => True) (okp := fun _ => True) ?hr ?hp (fun _ hk => hk) trivial (Below.refl _ _) (Nat.le_refl _) (by simp) ?_; (case hd => rfl); (case hg => rfl); (case hr => first | (go_simp; done) | (go_simp; rfl)); (case hp => exact (Reps.one (show Kd.M (Kd.int .u8) _ _ _ ((wrap64 (97 + (Int.tmod x10_2 20))) % 256) [.int .u8 ((wrap64 (97 + (Int.tmod x10_2 20))) % 256)] from rfl) (Reps.none _ _))); intro v183 w28 ho29 hb hg_ hnew_; clear hg_ hnew_; (first | rw [← Ny182.out] at ho29 | (simp only [Int.reduceToNat] at ho29; rw [← Ny182.out] at ho29)); have n0_ := Aside0.mk (Kd.R_below (by (with_reducible repeat (first | apply Kd.R_alloc | apply Kd.R_drewN | apply Kd.R_drew)); exact HO_4.out) hb); have n1_ := Aside0.mk (Kd.R_lower ho29 (below_size (by repeat (first | (with_reducible first | exact HB.out | apply below_alloc | apply pw_below_drewN | apply below_drew1) | exact HB.out)))); have n2_ := Aside0.mk (below_step (by repeat (first | (with_reducible first | exact HB.out | apply below_alloc | apply pw_below_drewN | apply below_drew1) | exact HB.out)) hb); clear HO_4; clear HB; have HO_4 := n0_; have HO184 := n1_; have HB := n2_; clear n0_ n1_ n2_; clear hb ho29; have hcv30 := own_string (P := Try.prog) Try.underlying39 Try.underlying5 Try.underlying9 (Kd.own_of_R HO184.out); have p27 : 0 ≤ (x10_2 : Int) := of_decide_eq_true (by first | (with_reducible assumption) | assumption); have q27 : (x10_2 : Int) < ((x4_2.length : Int) : Int) := of_decide_eq_true (by first | (with_reducible assumption) | assumption); obtain ⟨go27, co27, eo27, gb27, gl27, cl27, HG27⟩ := Kd.R_form HO_4.out (by omega); (first | cases eo27 | (injection eo27 with ea_ en_ ec_; (first | subst ea_ | (injection ea_ with ea_; subst ea_)); subst ec_; clear en_)); have GB27 := Aside0.mk gb27; have GG27 := Aside0.mk HG27; clear gb27 gl27 HG27; obtain ⟨hx27_0, hf27_0⟩ := Kd.R_celln (⟨#[]⟩ : ByteArray) HO_4.out (x10_2 : Int) p27 q27; replace p27 := eq_true p27; replace q27 := eq_true q27; obtain ⟨hy31_, hz31_⟩ := Kd.R_celln (⟨#[]⟩ : ByteArray) HO_4.out (x10_2 : Int) (of_decide_eq_true (by first | (with_reducible assumption) | assumption)) (of_decide_eq_true (by first | (with_reducible assumption) | assumption)); have HP31 := Kd.R_putg HO_4.out (x10_2 : Int) ((⟨#[111]⟩ : ByteArray) ++ (strOfNums y182))) | ((with_reducible refine gate_store (t := 9) (p := 62) rfl ?_); refine store_event (t := 9) (p := 62) (v := ?vo_w32) (w1 := (w28.setCell ⟨go27, (x10_2 : Int).toNat, none⟩ (.string ((⟨#[111]⟩ : ByteArray) ++ (strOfNums y182))))) ?hg ?ho ?hn ?hr ?_; (case ho => rfl); (case hg => rfl); (case hn => rfl); (case hr => first | (go_simp; done) | (go_simp; rfl)); intro w32 hw; have hg : w28.grownBy w32 (some go27) := (by rw [hw]; exact HP31.2); have hp_ : Kd.R Kd.string 9 w32 w.heap.size (fun _ => True) (.slice (some ⟨go27, 0, none⟩) x4_2.length co15) y185 := (by rw [hw, Ny185.out]; exact HP31.1); clear HP31; have n0_ := Aside0.mk (hp_); have n1_ := Aside0.mk (Kd.R_over' (v := (.slice (some ⟨go27, 0, none⟩) x4_2.length co15)) (by (with_reducible repeat (first | apply Kd.R_alloc | apply Kd.R_drewN | apply Kd.R_drew)); exact HO184.out) (Kd.R_typed HO_4.out) (by decide) hg); have n2_ := Aside0.mk ((by rw [hw]; exact below_set (HB.out) GB27.out : Below w.heap.size w w32)); clear HO_4; clear HO184; clear HB; have HO_4 := n0_; have HO184 := n1_; have HB := n2_; clear n0_ n1_ n2_; clear hg hw hp_))
                          (try simp only [← hl4_2])
                          go_roundg k2
                          case measure => have := HJ10.out; have := HK2.out; omega
                          case rel => exact ⟨(y185), (wrap64 (x10_2 + 1)), (by first | rfl | (simp; done) | (simp [*]; done)), H', ⟨by have := HJ10.out; have := HK2.out; omega⟩, ⟨by (try simp only [hl4_2]); (with_reducible repeat (first | apply Kd.R_alloc | apply Kd.R_drewN | apply Kd.R_drew)); exact HO_4.out⟩, ⟨by repeat (first | (with_reducible first | exact HB.out | apply below_alloc | apply pw_below_drewN | apply below_drew1) | exact HB.out)⟩⟩
                        · rw [if_neg c26] at H
                          exact absurd H (by simp)
                      · rw [if_neg c25] at H
                        exact absurd H (by simp)
                    · rw [if_neg c24] at H
                      exact absurd H (by simp)
                  · rw [if_neg c23] at H
                    have c23b0 : decide (x10_2 < (l0.length : Int)) = false := decide_eq_false c23
                    clear c23
                    by_cases c33 : 0 ≤ (l0.length : Int)
                    · rw [if_pos c33] at H
                      have c33b0 := eq_true c33
                      have c33b1 : decide (0 ≤ (l0.length : Int)) = true := decide_eq_true c33
                      clear c33
                      by_cases c34 : (l0.length : Int) ≤ (x4_2.length : Int)
                      · rw [if_pos c34] at H
                        have c34b0 := eq_true c34
                        have c34b1 : decide ((l0.length : Int) ≤ (x4_2.length : Int)) = true := decide_eq_true c34
                        clear c34
                        obtain ⟨y186, hy186⟩ : ∃ y_ : List ByteArray, y_ = (x4_2.take ((l0.length : Int) : Int).toNat) := ⟨_, rfl⟩
                        replace H : ((names_Join.f y186).bind fun bt190 => ((some (x4_2.take ((l0.length : Int) : Int).toNat : List ByteArray)).bind fun y192 => (if ([] : List ByteArray).length + y192.length < 8796093022208 then ((annexref3_Join.f k2 (([] : List ByteArray) ++ y192)).bind fun bt199 => (if bt190.1.toList = bt199.1.toList then ((annexlaw3_num.f bt190.2).bind fun t201 => (some (t201 == bt199.2))) else (some false))) else (none)))) = some r := by first | (rw [hy186]; with_reducible exact H) | (have H2_ := (Option.bind_some _ _).symm.trans H; rw [hy186]; with_reducible exact H2_) | (have H2_ := (Option.bind_some _ _).symm.trans H; with_reducible exact H2_) | with_reducible exact H | (rw [hy186]; exact H) | exact H
                        have Ny186 := Aside0.mk hy186
                        clear hy186
                        replace H := Option.bind_eq_some_iff.mp H
                        obtain ⟨⟨t190, t191⟩, A350, H⟩ := H
                        replace H : ((some (x4_2.take ((l0.length : Int) : Int).toNat : List ByteArray)).bind fun y192 => (if ([] : List ByteArray).length + y192.length < 8796093022208 then ((annexref3_Join.f k2 (([] : List ByteArray) ++ y192)).bind fun bt199 => (if t190.toList = bt199.1.toList then ((annexlaw3_num.f t191).bind fun t201 => (some (t201 == bt199.2))) else (some false))) else (none))) = some r := H
                        have A35 := Aside0.mk A350
                        clear A350
                        have c36b0 := eq_true (of_decide_eq_true (by first | (with_reducible assumption) | assumption) : 0 ≤ (l0.length : Int))
                        have c37b0 := eq_true (of_decide_eq_true (by first | (with_reducible assumption) | assumption) : (l0.length : Int) ≤ (x4_2.length : Int))
                        obtain ⟨y192, hy192⟩ : ∃ y_ : List ByteArray, y_ = (x4_2.take ((l0.length : Int) : Int).toNat) := ⟨_, rfl⟩
                        replace H : (if ([] : List ByteArray).length + y192.length < 8796093022208 then ((annexref3_Join.f k2 (([] : List ByteArray) ++ y192)).bind fun bt199 => (if t190.toList = bt199.1.toList then ((annexlaw3_num.f t191).bind fun t201 => (some (t201 == bt199.2))) else (some false))) else (none)) = some r := by first | (rw [hy192]; with_reducible exact H) | (have H2_ := (Option.bind_some _ _).symm.trans H; rw [hy192]; with_reducible exact H2_) | (have H2_ := (Option.bind_some _ _).symm.trans H; with_reducible exact H2_) | with_reducible exact H | (rw [hy192]; exact H) | exact H
                        have Ny192 := Aside0.mk hy192
                        clear hy192
                        by_cases c38 : ([] : List ByteArray).length + y192.length < 8796093022208
                        · rw [if_pos c38] at H
                          have LMc38 := Aside0.mk c38
                          clear c38
                          obtain ⟨y196, hy196⟩ : ∃ y_ : List ByteArray, y_ = (([] : List ByteArray) ++ y192) := ⟨_, rfl⟩
                          replace H : ((annexref3_Join.f k2 y196).bind fun bt199 => (if t190.toList = bt199.1.toList then ((annexlaw3_num.f t191).bind fun t201 => (some (t201 == bt199.2))) else (some false))) = some r := by first | (rw [hy196]; with_reducible exact H) | (have H2_ := (Option.bind_some _ _).symm.trans H; rw [hy196]; with_reducible exact H2_) | (have H2_ := (Option.bind_some _ _).symm.trans H; with_reducible exact H2_) | with_reducible exact H | (rw [hy196]; exact H) | exact H
                          have Ny196 := Aside0.mk hy196
                          clear hy196
                          replace H := Option.bind_eq_some_iff.mp H
                          obtain ⟨⟨t199, t200⟩, A390, H⟩ := H
                          replace H : (if t190.toList = t199.toList then ((annexlaw3_num.f t191).bind fun t201 => (some (t201 == t200))) else (some false)) = some r := H
                          have A39 := Aside0.mk A390
                          clear A390
                          by_cases c40 : t190.toList = t199.toList
                          · rw [if_pos c40] at H
                            have c40b0 : (t190.toList == t199.toList) = true := beq_iff_eq.mpr c40
                            have c40b1 : (t190.toList != t199.toList) = false := bne_eq_false_iff_eq.mpr c40
                            clear c40
                            replace H := Option.bind_eq_some_iff.mp H
                            obtain ⟨t201, A410, H⟩ := H
                            replace H : (some (t201 == t200)) = some r := H
                            have A41 := Aside0.mk A410
                            clear A410
                            obtain rfl := Option.some.inj H
                            have q42 : ((l0.length : Int) : Int) ≤ ((x4_2.length : Int) : Int) := of_decide_eq_true (by first | (with_reducible assumption) | assumption)
                            obtain ⟨i042, hi042, _, hsz42, _⟩ := info_parts info9
                            have hroom42 : x4_2.length ≤ co15 := (Kd.R_reads' HO_4.out).2.1
                            have hC42 : Kd.C Kd.string _ Ao15 x4_2.length x4_2 := (Kd.R_reads' HO_4.out).2.2
                            have hcut42 := cut_to (P := Try.prog) 22 9 .i64 Try.underlying22 hi042 Ao15 x4_2.length co15 (l0.length : Int) (of_decide_eq_true (by first | (with_reducible assumption) | assumption)) q42 hroom42
                            have hr42 := Kd.C_take (m := ((l0.length : Int) : Int).toNat) hC42 (by omega)
                            have hy42 : y186.length = ((l0.length : Int) : Int).toNat := (by rw [Ny186.out, List.length_take]; omega)
                            rw [← Ny186.out] at hr42
                            rw [← hy42] at hcut42
                            have HR189 := Aside0.mk hr42
                            have HC189 := Aside0.mk (show y186.length ≤ co15 from by omega)
                            clear hr42 hC42 hroom42 hi042 hsz42
                            have KY42 := Aside0.mk hy42
                            clear hy42
                            have KL42 := Aside0.mk (show ((l0.length : Int) : Int).toNat ≤ x4_2.length from by omega)
                            replace q42 := eq_true q42
                            go_wp2_with (first | ((with_reducible refine gate_callee (f := 20) rfl ?_); refine goesL_ (some 68) rfl rfl Try.func20 (by kernel_rfl) rfl #[.slice Ao15 y186.length co15] rfl (by (try simp only [List.map_toArray, List.map_cons, List.map_nil]); first | done | rfl | (simp only [List.length_drop, List.length_take]; rfl)) ?_; (with_reducible refine (names_Join.calls _ _ y186 t190 t191 _ ?side1 ?side2 A35.out).mono ?_); (case side1 => repeat (first | exact (by repeat (first | (with_reducible exact HR189.out) | (with_reducible refine Kd.C_alloc ?_ _) | (with_reducible refine Kd.C_drewN ?_ _) | (with_reducible refine Kd.C_drew ?_) | exact HR189.out)) | (with_reducible refine Kd.C_alloc ?_ _) | (with_reducible refine Kd.C_drewN ?_ _) | (with_reducible refine Kd.C_drew ?_))); (case side2 => exact HC189.out); rintro e w43 ⟨rfl, hb⟩; refine ⟨_, rfl, ?_⟩; have n0_ := Aside0.mk (Kd.R_below (by (with_reducible repeat (first | apply Kd.R_alloc | apply Kd.R_drewN | apply Kd.R_drew)); exact HO_4.out) hb); have n1_ := Aside0.mk (Kd.C_below (by repeat (first | (with_reducible exact HR189.out) | (with_reducible refine Kd.C_alloc ?_ _) | (with_reducible refine Kd.C_drewN ?_ _) | (with_reducible refine Kd.C_drew ?_) | exact HR189.out)) hb); have n2_ := Aside0.mk (below_step (by repeat (first | (with_reducible first | exact HB.out | apply below_alloc | apply pw_below_drewN | apply below_drew1) | exact HB.out)) hb); clear HO_4; clear HR189; clear HB; have HO_4 := n0_; have HR189 := n1_; have HB := n2_; clear n0_ n1_ n2_; (try clear hb); (try clear hb2); (try clear hk); (try clear hi); have q44 : ((l0.length : Int) : Int) ≤ ((x4_2.length : Int) : Int) := of_decide_eq_true (by first | (with_reducible assumption) | assumption); obtain ⟨i044, hi044, _, hsz44, _⟩ := info_parts info9; have hroom44 : x4_2.length ≤ co15 := (Kd.R_reads' HO_4.out).2.1; have hC44 : Kd.C Kd.string _ Ao15 x4_2.length x4_2 := (Kd.R_reads' HO_4.out).2.2; have hcut44 := cut_to (P := Try.prog) 22 9 .i64 Try.underlying22 hi044 Ao15 x4_2.length co15 (l0.length : Int) (of_decide_eq_true (by first | (with_reducible assumption) | assumption)) q44 hroom44; have hr44 := Kd.C_take (m := ((l0.length : Int) : Int).toNat) hC44 (by omega); have hy44 : y192.length = ((l0.length : Int) : Int).toNat := (by rw [Ny192.out, List.length_take]; omega); rw [← Ny192.out] at hr44; rw [← hy44] at hcut44; have HR195 := Aside0.mk hr44; have HC195 := Aside0.mk (show y192.length ≤ co15 from by omega); clear hr44 hC44 hroom44 hi044 hsz44; have KY44 := Aside0.mk hy44; clear hy44; have KL44 := Aside0.mk (show ((l0.length : Int) : Int).toNat ≤ x4_2.length from by omega); replace q44 := eq_true q44) | ((with_reducible refine gate_builtin (b := .append) (xs := #[.tmp 71, .tmp 75]) rfl ?_); at_builtin; refine Kd.R_append_rows Kd.string (w0 := w) w.heap.size rfl (.tmp 71) (.tmp 75) 22 9 (.string ⟨#[]⟩) 16 rfl Try.underlying22 info9 rfl (by decide) (by omega) (.slice none 0 0) ([] : List ByteArray) y192 _ _ _ (fun k_ => some k_ ≠ (.slice Ao15 x4_2.length co15 : Value).ownBlock) (fun _ => False) rfl rfl ?aO ?aR (fun _ _ h => h) (fun _ h => h.elim) ?aF ?aB ?aS ?aL ?_; (case aR => (try rw [show y186.length = y192.length from by rw [Ny186.out, Ny192.out]]); repeat (first | exact (by repeat (first | (with_reducible exact HR195.out) | (with_reducible refine Kd.C_alloc ?_ _) | (with_reducible refine Kd.C_drewN ?_ _) | (with_reducible refine Kd.C_drew ?_) | exact HR195.out)) | (with_reducible refine Kd.C_alloc ?_ _) | (with_reducible refine Kd.C_drewN ?_ _) | (with_reducible refine Kd.C_drew ?_))); (case aB => exact (by repeat (first | (with_reducible first | exact HB.out | apply below_alloc | apply pw_below_drewN | apply below_drew1) | exact HB.out))); (case aF => exact (fun k_ hk => Kd.fresh' (Kd.R_lt (by (with_reducible repeat (first | apply Kd.R_alloc | apply Kd.R_drewN | apply Kd.R_drew)); exact HO_4.out)) k_ hk)); (case aO => exact ((Kd.R_nil _ _ _ _ (fun k_ => some k_ ≠ (.slice Ao15 x4_2.length co15 : Value).ownBlock)))); (case aS => exact (below_size (by repeat (first | (with_reducible first | exact HB.out | apply below_alloc | apply pw_below_drewN | apply below_drew1) | exact HB.out)))); (case aL => first | (have := LMc38.out; omega) | (have h192_ := LMc38.out; rw [Ny192.out] at h192_; rw [Ny186.out]; omega)); intro v197 w45 ho hb hg hat; rw [← Ny196.out] at ho; have n0_ := Aside0.mk (Kd.R_after (Kd.R_apart_nil (by (with_reducible repeat (first | apply Kd.R_alloc | apply Kd.R_drewN | apply Kd.R_drew)); exact HO_4.out)) hg hat); have n1_ := Aside0.mk (hb); have n2_ := Aside0.mk ((show Kd.C Kd.string w45 Ao15 y186.length y186 from by rw [Ny186.out]; exact Kd.C_take (m := ((l0.length : Int) : Int).toNat) ((Kd.R_reads' (Kd.R_after (Kd.R_apart_nil (by (with_reducible repeat (first | apply Kd.R_alloc | apply Kd.R_drewN | apply Kd.R_drew)); exact HO_4.out)) hg hat)).2.2) KL42.out)); have n3_ := Aside0.mk ((show Kd.C Kd.string w45 Ao15 y192.length y192 from by rw [Ny192.out]; exact Kd.C_take (m := ((l0.length : Int) : Int).toNat) ((Kd.R_reads' (Kd.R_after (Kd.R_apart_nil (by (with_reducible repeat (first | apply Kd.R_alloc | apply Kd.R_drewN | apply Kd.R_drew)); exact HO_4.out)) hg hat)).2.2) KL44.out)); have n4_ := Aside0.mk (ho); clear HO_4; clear HB; clear HR189; clear HR195; have HO_4 := n0_; have HB := n1_; have HR189 := n2_; have HR195 := n3_; have HO198 := n4_; clear n0_ n1_ n2_ n3_ n4_; clear ho hb hg hat; obtain ⟨Ao46, co46, eo46⟩ := Kd.R_slice HO198.out; subst eo46) | ((with_reducible refine gate_callee (f := 21) rfl ?_); refine goesL_ (some 79) rfl rfl Try.func21 (by kernel_rfl) rfl #[.slice Ao46 y196.length co46] rfl (by (try simp only [List.map_toArray, List.map_cons, List.map_nil]); first | done | rfl | (simp only [List.length_drop, List.length_take]; rfl)) ?_; (with_reducible refine (annexref3_Join.calls k2 _ _ y196 t199 t200 _ ?side1 ?side2 A39.out).mono ?_); (case side1 => repeat (first | exact (Kd.R_reads' HO198.out).2.2 | (with_reducible refine Kd.C_alloc ?_ _) | (with_reducible refine Kd.C_drewN ?_ _) | (with_reducible refine Kd.C_drew ?_))); (case side2 => exact (Kd.R_reads' HO198.out).2.1); rintro e w' ⟨rfl, ⟨nd, rfl⟩⟩; refine ⟨_, rfl, ?_⟩) | (go_at_call 15; (with_reducible refine (annexlaw3_num.calls t191 t201 _ A41.out).mono ?_); rintro e w' ⟨rfl, ⟨nd, rfl⟩⟩))
                            go_ret
                            exact ⟨by first | rfl | (simp [errW_none, errW_some] <;> rfl) | (simp [*, errW_none, errW_some] <;> rfl), by repeat (first | (with_reducible first | exact HB.out | apply below_alloc | apply pw_below_drewN | apply below_drew1) | exact HB.out)⟩
                          · rw [if_neg c40] at H
                            have c40b0 : (t190.toList == t199.toList) = false := beq_eq_false_iff_ne.mpr c40
                            have c40b1 : (t190.toList != t199.toList) = true := bne_iff_ne.mpr c40
                            obtain rfl := Option.some.inj H
                            have q47 : ((l0.length : Int) : Int) ≤ ((x4_2.length : Int) : Int) := of_decide_eq_true (by first | (with_reducible assumption) | assumption)
                            obtain ⟨i047, hi047, _, hsz47, _⟩ := info_parts info9
                            have hroom47 : x4_2.length ≤ co15 := (Kd.R_reads' HO_4.out).2.1
                            have hC47 : Kd.C Kd.string _ Ao15 x4_2.length x4_2 := (Kd.R_reads' HO_4.out).2.2
                            have hcut47 := cut_to (P := Try.prog) 22 9 .i64 Try.underlying22 hi047 Ao15 x4_2.length co15 (l0.length : Int) (of_decide_eq_true (by first | (with_reducible assumption) | assumption)) q47 hroom47
                            have hr47 := Kd.C_take (m := ((l0.length : Int) : Int).toNat) hC47 (by omega)
                            have hy47 : y186.length = ((l0.length : Int) : Int).toNat := (by rw [Ny186.out, List.length_take]; omega)
                            rw [← Ny186.out] at hr47
                            rw [← hy47] at hcut47
                            have HR189 := Aside0.mk hr47
                            have HC189 := Aside0.mk (show y186.length ≤ co15 from by omega)
                            clear hr47 hC47 hroom47 hi047 hsz47
                            have KY47 := Aside0.mk hy47
                            clear hy47
                            have KL47 := Aside0.mk (show ((l0.length : Int) : Int).toNat ≤ x4_2.length from by omega)
                            replace q47 := eq_true q47
                            go_wp2_with (first | ((with_reducible refine gate_callee (f := 20) rfl ?_); refine goesL_ (some 68) rfl rfl Try.func20 (by kernel_rfl) rfl #[.slice Ao15 y186.length co15] rfl (by (try simp only [List.map_toArray, List.map_cons, List.map_nil]); first | done | rfl | (simp only [List.length_drop, List.length_take]; rfl)) ?_; (with_reducible refine (names_Join.calls _ _ y186 t190 t191 _ ?side1 ?side2 A35.out).mono ?_); (case side1 => repeat (first | exact (by repeat (first | (with_reducible exact HR189.out) | (with_reducible refine Kd.C_alloc ?_ _) | (with_reducible refine Kd.C_drewN ?_ _) | (with_reducible refine Kd.C_drew ?_) | exact HR189.out)) | (with_reducible refine Kd.C_alloc ?_ _) | (with_reducible refine Kd.C_drewN ?_ _) | (with_reducible refine Kd.C_drew ?_))); (case side2 => exact HC189.out); rintro e w48 ⟨rfl, hb⟩; refine ⟨_, rfl, ?_⟩; have n0_ := Aside0.mk (Kd.R_below (by (with_reducible repeat (first | apply Kd.R_alloc | apply Kd.R_drewN | apply Kd.R_drew)); exact HO_4.out) hb); have n1_ := Aside0.mk (Kd.C_below (by repeat (first | (with_reducible exact HR189.out) | (with_reducible refine Kd.C_alloc ?_ _) | (with_reducible refine Kd.C_drewN ?_ _) | (with_reducible refine Kd.C_drew ?_) | exact HR189.out)) hb); have n2_ := Aside0.mk (below_step (by repeat (first | (with_reducible first | exact HB.out | apply below_alloc | apply pw_below_drewN | apply below_drew1) | exact HB.out)) hb); clear HO_4; clear HR189; clear HB; have HO_4 := n0_; have HR189 := n1_; have HB := n2_; clear n0_ n1_ n2_; (try clear hb); (try clear hb2); (try clear hk); (try clear hi); have q49 : ((l0.length : Int) : Int) ≤ ((x4_2.length : Int) : Int) := of_decide_eq_true (by first | (with_reducible assumption) | assumption); obtain ⟨i049, hi049, _, hsz49, _⟩ := info_parts info9; have hroom49 : x4_2.length ≤ co15 := (Kd.R_reads' HO_4.out).2.1; have hC49 : Kd.C Kd.string _ Ao15 x4_2.length x4_2 := (Kd.R_reads' HO_4.out).2.2; have hcut49 := cut_to (P := Try.prog) 22 9 .i64 Try.underlying22 hi049 Ao15 x4_2.length co15 (l0.length : Int) (of_decide_eq_true (by first | (with_reducible assumption) | assumption)) q49 hroom49; have hr49 := Kd.C_take (m := ((l0.length : Int) : Int).toNat) hC49 (by omega); have hy49 : y192.length = ((l0.length : Int) : Int).toNat := (by rw [Ny192.out, List.length_take]; omega); rw [← Ny192.out] at hr49; rw [← hy49] at hcut49; have HR195 := Aside0.mk hr49; have HC195 := Aside0.mk (show y192.length ≤ co15 from by omega); clear hr49 hC49 hroom49 hi049 hsz49; have KY49 := Aside0.mk hy49; clear hy49; have KL49 := Aside0.mk (show ((l0.length : Int) : Int).toNat ≤ x4_2.length from by omega); replace q49 := eq_true q49) | ((with_reducible refine gate_builtin (b := .append) (xs := #[.tmp 71, .tmp 75]) rfl ?_); at_builtin; refine Kd.R_append_rows Kd.string (w0 := w) w.heap.size rfl (.tmp 71) (.tmp 75) 22 9 (.string ⟨#[]⟩) 16 rfl Try.underlying22 info9 rfl (by decide) (by omega) (.slice none 0 0) ([] : List ByteArray) y192 _ _ _ (fun k_ => some k_ ≠ (.slice Ao15 x4_2.length co15 : Value).ownBlock) (fun _ => False) rfl rfl ?aO ?aR (fun _ _ h => h) (fun _ h => h.elim) ?aF ?aB ?aS ?aL ?_; (case aR => (try rw [show y186.length = y192.length from by rw [Ny186.out, Ny192.out]]); repeat (first | exact (by repeat (first | (with_reducible exact HR195.out) | (with_reducible refine Kd.C_alloc ?_ _) | (with_reducible refine Kd.C_drewN ?_ _) | (with_reducible refine Kd.C_drew ?_) | exact HR195.out)) | (with_reducible refine Kd.C_alloc ?_ _) | (with_reducible refine Kd.C_drewN ?_ _) | (with_reducible refine Kd.C_drew ?_))); (case aB => exact (by repeat (first | (with_reducible first | exact HB.out | apply below_alloc | apply pw_below_drewN | apply below_drew1) | exact HB.out))); (case aF => exact (fun k_ hk => Kd.fresh' (Kd.R_lt (by (with_reducible repeat (first | apply Kd.R_alloc | apply Kd.R_drewN | apply Kd.R_drew)); exact HO_4.out)) k_ hk)); (case aO => exact ((Kd.R_nil _ _ _ _ (fun k_ => some k_ ≠ (.slice Ao15 x4_2.length co15 : Value).ownBlock)))); (case aS => exact (below_size (by repeat (first | (with_reducible first | exact HB.out | apply below_alloc | apply pw_below_drewN | apply below_drew1) | exact HB.out)))); (case aL => first | (have := LMc38.out; omega) | (have h192_ := LMc38.out; rw [Ny192.out] at h192_; rw [Ny186.out]; omega)); intro v197 w50 ho hb hg hat; rw [← Ny196.out] at ho; have n0_ := Aside0.mk (Kd.R_after (Kd.R_apart_nil (by (with_reducible repeat (first | apply Kd.R_alloc | apply Kd.R_drewN | apply Kd.R_drew)); exact HO_4.out)) hg hat); have n1_ := Aside0.mk (hb); have n2_ := Aside0.mk ((show Kd.C Kd.string w50 Ao15 y186.length y186 from by rw [Ny186.out]; exact Kd.C_take (m := ((l0.length : Int) : Int).toNat) ((Kd.R_reads' (Kd.R_after (Kd.R_apart_nil (by (with_reducible repeat (first | apply Kd.R_alloc | apply Kd.R_drewN | apply Kd.R_drew)); exact HO_4.out)) hg hat)).2.2) KL47.out)); have n3_ := Aside0.mk ((show Kd.C Kd.string w50 Ao15 y192.length y192 from by rw [Ny192.out]; exact Kd.C_take (m := ((l0.length : Int) : Int).toNat) ((Kd.R_reads' (Kd.R_after (Kd.R_apart_nil (by (with_reducible repeat (first | apply Kd.R_alloc | apply Kd.R_drewN | apply Kd.R_drew)); exact HO_4.out)) hg hat)).2.2) KL49.out)); have n4_ := Aside0.mk (ho); clear HO_4; clear HB; clear HR189; clear HR195; have HO_4 := n0_; have HB := n1_; have HR189 := n2_; have HR195 := n3_; have HO198 := n4_; clear n0_ n1_ n2_ n3_ n4_; clear ho hb hg hat; obtain ⟨Ao51, co51, eo51⟩ := Kd.R_slice HO198.out; subst eo51) | ((with_reducible refine gate_callee (f := 21) rfl ?_); refine goesL_ (some 79) rfl rfl Try.func21 (by kernel_rfl) rfl #[.slice Ao51 y196.length co51] rfl (by (try simp only [List.map_toArray, List.map_cons, List.map_nil]); first | done | rfl | (simp only [List.length_drop, List.length_take]; rfl)) ?_; (with_reducible refine (annexref3_Join.calls k2 _ _ y196 t199 t200 _ ?side1 ?side2 A39.out).mono ?_); (case side1 => repeat (first | exact (Kd.R_reads' HO198.out).2.2 | (with_reducible refine Kd.C_alloc ?_ _) | (with_reducible refine Kd.C_drewN ?_ _) | (with_reducible refine Kd.C_drew ?_))); (case side2 => exact (Kd.R_reads' HO198.out).2.1); rintro e w' ⟨rfl, ⟨nd, rfl⟩⟩; refine ⟨_, rfl, ?_⟩))
                            go_ret
                            exact ⟨by first | rfl | (simp [errW_none, errW_some] <;> rfl) | (simp [*, errW_none, errW_some] <;> rfl), by repeat (first | (with_reducible first | exact HB.out | apply below_alloc | apply pw_below_drewN | apply below_drew1) | exact HB.out)⟩
                        · rw [if_neg c38] at H
                          exact absurd H (by simp)
                      · rw [if_neg c34] at H
                        exact absurd H (by simp)
                    · rw [if_neg c33] at H
                      exact absurd H (by simp)
      · rw [if_neg c6] at H
        exact absurd H (by simp)
    · rw [if_neg c5] at H
      exact absurd H (by simp)
  · replace c3 := Bool.eq_false_iff.mpr c3
    subst c3
    have H1 : (some false) = some r := by rw [if_neg (show ¬ (false = true) by decide)] at H; exact H
    clear H
    have H := H1
    clear H1
    obtain rfl := Option.some.inj H
    go_enter Try.func5, Try.ntmps5
    go_wp2_with (first | ((with_reducible refine gate_callee (f := 12) rfl ?_); refine goesL_ (some 12) rfl rfl Try.func12 (by kernel_rfl) rfl #[] rfl (by (try simp only [List.map_toArray, List.map_cons, List.map_nil]); first | done | rfl | (simp only [List.length_drop, List.length_take]; rfl)) ?_; (with_reducible refine (annexlaw3_first.calls k  false _ A2.out).mono ?_); rintro e w52 ⟨rfl, hb⟩; refine ⟨_, rfl, ?_⟩; have n0_ := Aside0.mk (below_step (by repeat (first | (with_reducible first | exact HB.out | apply below_alloc | apply pw_below_drewN | apply below_drew1) | exact HB.out)) hb); clear HB; have HB := n0_; clear n0_; (try clear hb); (try clear hb2); (try clear hk); (try clear hi)))
    go_ret
    exact ⟨by first | rfl | (simp [errW_none, errW_some] <;> rfl) | (simp [*, errW_none, errW_some] <;> rfl), by repeat (first | (with_reducible first | exact HB.out | apply below_alloc | apply pw_below_drewN | apply below_drew1) | exact HB.out)⟩

end Go.Proofs.Ytbelfaoolnijiaa.PA
