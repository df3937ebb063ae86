-- Printed by a program of this session over the kit's print (some functions are told by hand). Not trusted: Lean checks it.
import Derived.Test.YtccddkkijhedhaaDoorPAx0
import Derived.Test.YtccddkkijhedhaaDoorPAx3
import Derived.Test.YtccddkkijhedhaaDoorPAx5
import Derived.Test.YtccddkkijhedhaaDoorPAx9
import Derived.Test.YtccddkkijhedhaaDoorPAx21
namespace Go.Proofs.YtccddkkijhedhaaDoor.PA
open Go.RowKit Go.Proofs.YtccddkkijhedhaaDoor Go.Proofs.YtccddkkijhedhaaDoorW.PrintWords Go.Proofs.YtccddkkijhedhaaDoorW.PrintLast Go.Proofs.YtccddkkijhedhaaDoorW.PrintMore
attribute [local go_sem] max2_int min2_int max_two min_two max_three min_three max_four min_four   -- for this text's walks alone
set_option linter.unusedVariables false
set_option linter.unusedSimpArgs false

/-! ### annexlaw17_RtoSteady: function 11 -/
mutual
def annexlaw17_RtoSteady.j0 : Nat → Int → Int → Bool → Bool → Int → Int → Int → Int → Int → Int → Int → Bool → Option (Bool)
  | 0, _, _, _, _, _, _, _, _, _, _, _, _ => none
  | k + 1, x1, x2, x10, x29, x355000, x355001, x355002, x363000, x363001, x363002, x363003, x363004 => if x29 = true then (some false) else (if x10 = true then (if x1 < 1 then (annexlaw17_RtoSteady.j1 k x1 x2 true x355000 x355001 x355002 x363000 x363001 x363002 x363003 x363004) else (annexlaw17_RtoSteady.j1 k x1 x2 (decide (x1 > 1048576)) x355000 x355001 x355002 x363000 x363001 x363002 x363003 x363004)) else (annexlaw17_RtoSteady.j1 k x1 x2 true x355000 x355001 x355002 x363000 x363001 x363002 x363003 x363004))
def annexlaw17_RtoSteady.j1 : Nat → Int → Int → Bool → Int → Int → Int → Int → Int → Int → Int → Bool → Option (Bool)
  | 0, _, _, _, _, _, _, _, _, _, _, _ => none
  | k + 1, x1, x2, x39, x355000, x355001, x355002, x363000, x363001, x363002, x363003, x363004 => if x39 = true then (some true) else (annexlaw17_RtoSteady.l0 k x1 x2 1073741824 0 x355000 x355001 x355002 x363000 x363001 x363002 x363003 x363004)
def annexlaw17_RtoSteady.l0 : Nat → Int → Int → Int → Int → Int → Int → Int → Int → Int → Int → Int → Bool → Option (Bool)
  | 0, _, _, _, _, _, _, _, _, _, _, _, _ => none
  | k + 1, x1, x2, x11, x12, x355000, x355001, x355002, x363000, x363001, x363002, x363003, x363004 => if x12 < x2 then (annexlaw17_RtoSteady.j3 k x1 x2 x11 x12 (decide (x12 < 300)) x355000 x355001 x355002 x363000 x363001 x363002 x363003 x363004) else (annexlaw17_RtoSteady.j3 k x1 x2 x11 x12 false x355000 x355001 x355002 x363000 x363001 x363002 x363003 x363004)
def annexlaw17_RtoSteady.j3 : Nat → Int → Int → Int → Int → Bool → Int → Int → Int → Int → Int → Int → Int → Bool → Option (Bool)
  | 0, _, _, _, _, _, _, _, _, _, _, _, _, _ => none
  | k + 1, x1, x2, x11, x12, x46, x355000, x355001, x355002, x363000, x363001, x363002, x363003, x363004 => if x46 = true then ((rto_Sample.f x355000 x355001 x355002 x363000 x363001 x363002 x363003 x363004 x1).bind fun bt365 => (if bt365.1 = (wrap64 (8 * x1)) then (if bt365.2.1 > x11 then (some false) else (if x12 ≥ 64 then (if bt365.2.1 > 3 then (some false) else (annexlaw17_RtoSteady.l0 k x1 x2 bt365.2.1 (wrap64 (x12 + 1)) x355000 x355001 x355002 bt365.1 bt365.2.1 bt365.2.2.1 bt365.2.2.2.1 bt365.2.2.2.2)) else (annexlaw17_RtoSteady.l0 k x1 x2 bt365.2.1 (wrap64 (x12 + 1)) x355000 x355001 x355002 bt365.1 bt365.2.1 bt365.2.2.1 bt365.2.2.2.1 bt365.2.2.2.2))) else (some false))) else (some true)
end
def annexlaw17_RtoSteady.f (k : Nat) (a0_0 : Int) (a0_1 : Int) (a0_2 : Int) (a1 : Int) (a2 : Int) : Option (Bool) := (annexlaw17_known.f).bind fun t355 => ((rto_Start.f a0_0 a0_1 a0_2).bind fun bt356 => ((annexlaw17_right.f a0_0 a0_1 a0_2).bind fun t363 => (if t355 = true then ((annexlaw17_num.f bt356.2.2.2.2.2).bind fun t364 => (annexlaw17_RtoSteady.j0 k a1 a2 t363 ((t364 == 0) != t363) a0_0 a0_1 a0_2 bt356.1 bt356.2.1 bt356.2.2.1 bt356.2.2.2.1 bt356.2.2.2.2.1)) else (annexlaw17_RtoSteady.j0 k a1 a2 t363 true a0_0 a0_1 a0_2 bt356.1 bt356.2.1 bt356.2.2.1 bt356.2.2.2.1 bt356.2.2.2.2.1))))
theorem annexlaw17_RtoSteady.mono_l : ∀ k, (∀ y0 y1 y2 y3 y4 y5 y6 y7 y8 y9 y10 y11, LeO (annexlaw17_RtoSteady.j0 k y0 y1 y2 y3 y4 y5 y6 y7 y8 y9 y10 y11) (annexlaw17_RtoSteady.j0 (k + 1) y0 y1 y2 y3 y4 y5 y6 y7 y8 y9 y10 y11)) ∧ (∀ y0 y1 y2 y3 y4 y5 y6 y7 y8 y9 y10, LeO (annexlaw17_RtoSteady.j1 k y0 y1 y2 y3 y4 y5 y6 y7 y8 y9 y10) (annexlaw17_RtoSteady.j1 (k + 1) y0 y1 y2 y3 y4 y5 y6 y7 y8 y9 y10)) ∧ (∀ y0 y1 y2 y3 y4 y5 y6 y7 y8 y9 y10 y11, LeO (annexlaw17_RtoSteady.l0 k y0 y1 y2 y3 y4 y5 y6 y7 y8 y9 y10 y11) (annexlaw17_RtoSteady.l0 (k + 1) y0 y1 y2 y3 y4 y5 y6 y7 y8 y9 y10 y11)) ∧ (∀ y0 y1 y2 y3 y4 y5 y6 y7 y8 y9 y10 y11 y12, LeO (annexlaw17_RtoSteady.j3 k y0 y1 y2 y3 y4 y5 y6 y7 y8 y9 y10 y11 y12) (annexlaw17_RtoSteady.j3 (k + 1) y0 y1 y2 y3 y4 y5 y6 y7 y8 y9 y10 y11 y12))
  | 0 => ⟨fun _ _ _ _ _ _ _ _ _ _ _ _ r h => by simp [annexlaw17_RtoSteady.j0] at h, fun _ _ _ _ _ _ _ _ _ _ _ r h => by simp [annexlaw17_RtoSteady.j1] at h, fun _ _ _ _ _ _ _ _ _ _ _ _ r h => by simp [annexlaw17_RtoSteady.l0] at h, fun _ _ _ _ _ _ _ _ _ _ _ _ _ r h => by simp [annexlaw17_RtoSteady.j3] at h⟩
  | k + 1 => by
    obtain ⟨ih0, ih1, ih2, ih3⟩ := annexlaw17_RtoSteady.mono_l k
    refine ⟨?_, ?_, ?_, ?_⟩
    · intro y0 y1 y2 y3 y4 y5 y6 y7 y8 y9 y10 y11
      unfold annexlaw17_RtoSteady.j0
      repeat' first
      | (with_reducible exact ih0 _ _ _ _ _ _ _ _ _ _ _ _)
      | (with_reducible exact ih1 _ _ _ _ _ _ _ _ _ _ _)
      | (with_reducible exact ih2 _ _ _ _ _ _ _ _ _ _ _ _)
      | (with_reducible exact ih3 _ _ _ _ _ _ _ _ _ _ _ _ _)
      | (with_reducible exact LeO.refl _)
      | (with_reducible exact LeO.none _)
      | (with_reducible refine LeO.ite ?_ ?_)
      | (with_reducible refine LeO.bind ?_ (fun _ => ?_))
      | exact ih0 _ _ _ _ _ _ _ _ _ _ _ _
      | exact ih1 _ _ _ _ _ _ _ _ _ _ _
      | exact ih2 _ _ _ _ _ _ _ _ _ _ _ _
      | exact ih3 _ _ _ _ _ _ _ _ _ _ _ _ _
      | exact LeO.none _
      | refine LeO.ite ?_ ?_
      | refine LeO.bind ?_ (fun _ => ?_)
    · intro y0 y1 y2 y3 y4 y5 y6 y7 y8 y9 y10
      unfold annexlaw17_RtoSteady.j1
      repeat' first
      | (with_reducible exact ih0 _ _ _ _ _ _ _ _ _ _ _ _)
      | (with_reducible exact ih1 _ _ _ _ _ _ _ _ _ _ _)
      | (with_reducible exact ih2 _ _ _ _ _ _ _ _ _ _ _ _)
      | (with_reducible exact ih3 _ _ _ _ _ _ _ _ _ _ _ _ _)
      | (with_reducible exact LeO.refl _)
      | (with_reducible exact LeO.none _)
      | (with_reducible refine LeO.ite ?_ ?_)
      | (with_reducible refine LeO.bind ?_ (fun _ => ?_))
      | exact ih0 _ _ _ _ _ _ _ _ _ _ _ _
      | exact ih1 _ _ _ _ _ _ _ _ _ _ _
      | exact ih2 _ _ _ _ _ _ _ _ _ _ _ _
      | exact ih3 _ _ _ _ _ _ _ _ _ _ _ _ _
      | exact LeO.none _
      | refine LeO.ite ?_ ?_
      | refine LeO.bind ?_ (fun _ => ?_)
    · intro y0 y1 y2 y3 y4 y5 y6 y7 y8 y9 y10 y11
      unfold annexlaw17_RtoSteady.l0
      repeat' first
      | (with_reducible exact ih0 _ _ _ _ _ _ _ _ _ _ _ _)
      | (with_reducible exact ih1 _ _ _ _ _ _ _ _ _ _ _)
      | (with_reducible exact ih2 _ _ _ _ _ _ _ _ _ _ _ _)
      | (with_reducible exact ih3 _ _ _ _ _ _ _ _ _ _ _ _ _)
      | (with_reducible exact LeO.refl _)
      | (with_reducible exact LeO.none _)
      | (with_reducible refine LeO.ite ?_ ?_)
      | (with_reducible refine LeO.bind ?_ (fun _ => ?_))
      | exact ih0 _ _ _ _ _ _ _ _ _ _ _ _
      | exact ih1 _ _ _ _ _ _ _ _ _ _ _
      | exact ih2 _ _ _ _ _ _ _ _ _ _ _ _
      | exact ih3 _ _ _ _ _ _ _ _ _ _ _ _ _
      | exact LeO.none _
      | refine LeO.ite ?_ ?_
      | refine LeO.bind ?_ (fun _ => ?_)
    · intro y0 y1 y2 y3 y4 y5 y6 y7 y8 y9 y10 y11 y12
      unfold annexlaw17_RtoSteady.j3
      repeat' first
      | (with_reducible exact ih0 _ _ _ _ _ _ _ _ _ _ _ _)
      | (with_reducible exact ih1 _ _ _ _ _ _ _ _ _ _ _)
      | (with_reducible exact ih2 _ _ _ _ _ _ _ _ _ _ _ _)
      | (with_reducible exact ih3 _ _ _ _ _ _ _ _ _ _ _ _ _)
      | (with_reducible exact LeO.refl _)
      | (with_reducible exact LeO.none _)
      | (with_reducible refine LeO.ite ?_ ?_)
      | (with_reducible refine LeO.bind ?_ (fun _ => ?_))
      | exact ih0 _ _ _ _ _ _ _ _ _ _ _ _
      | exact ih1 _ _ _ _ _ _ _ _ _ _ _
      | exact ih2 _ _ _ _ _ _ _ _ _ _ _ _
      | exact ih3 _ _ _ _ _ _ _ _ _ _ _ _ _
      | exact LeO.none _
      | refine LeO.ite ?_ ?_
      | refine LeO.bind ?_ (fun _ => ?_)
theorem annexlaw17_RtoSteady.mono : ∀ a0 a1 a2 a3 a4 k, LeO (annexlaw17_RtoSteady.f k a0 a1 a2 a3 a4) (annexlaw17_RtoSteady.f (k + 1) a0 a1 a2 a3 a4) := by
  intro a0 a1 a2 a3 a4 k
  obtain ⟨ih0, ih1, ih2, ih3⟩ := annexlaw17_RtoSteady.mono_l k
  unfold annexlaw17_RtoSteady.f
  repeat' first
      | (with_reducible exact ih0 _ _ _ _ _ _ _ _ _ _ _ _)
      | (with_reducible exact ih1 _ _ _ _ _ _ _ _ _ _ _)
      | (with_reducible exact ih2 _ _ _ _ _ _ _ _ _ _ _ _)
      | (with_reducible exact ih3 _ _ _ _ _ _ _ _ _ _ _ _ _)
      | (with_reducible exact LeO.refl _)
      | (with_reducible exact LeO.none _)
      | (with_reducible refine LeO.ite ?_ ?_)
      | (with_reducible refine LeO.bind ?_ (fun _ => ?_))
      | exact ih0 _ _ _ _ _ _ _ _ _ _ _ _
      | exact ih1 _ _ _ _ _ _ _ _ _ _ _
      | exact ih2 _ _ _ _ _ _ _ _ _ _ _ _
      | exact ih3 _ _ _ _ _ _ _ _ _ _ _ _ _
      | exact LeO.none _
      | refine LeO.ite ?_ ?_
      | refine LeO.bind ?_ (fun _ => ?_)
set_option maxHeartbeats 8000000 in
set_option maxRecDepth 100000 in
theorem annexlaw17_RtoSteady.calls (k : Nat) (a0_0 : Int) (a0_1 : Int) (a0_2 : Int) (a1 : Int) (a2 : Int) (r : Bool) (w : World) (hG : Tied w) (h : annexlaw17_RtoSteady.f k a0_0 a0_1 a0_2 a1 a2 = some r) :
    Calls Tryd.prog 11 #[.agg #[.int .i64 a0_0, .int .i64 a0_1, .int .i64 a0_2], .int .i64 a1, .int .i64 a2] w fun e w' => e = .returned (.bool r) ∧ Below w.heap.size w w' := by
  have hu23 := Tryd.underlying23
  have hu26 := Tryd.underlying26
  have HG := Aside0.mk hG
  clear hG
  have HB := Aside0.mk (Below.refl w.heap.size w)
  have H : ((annexlaw17_known.f).bind fun t355 => ((rto_Start.f a0_0 a0_1 a0_2).bind fun bt356 => ((annexlaw17_right.f a0_0 a0_1 a0_2).bind fun t363 => (if t355 = true then ((annexlaw17_num.f bt356.2.2.2.2.2).bind fun t364 => (annexlaw17_RtoSteady.j0 k a1 a2 t363 ((t364 == 0) != t363) a0_0 a0_1 a0_2 bt356.1 bt356.2.1 bt356.2.2.1 bt356.2.2.2.1 bt356.2.2.2.2.1)) else (annexlaw17_RtoSteady.j0 k a1 a2 t363 true a0_0 a0_1 a0_2 bt356.1 bt356.2.1 bt356.2.2.1 bt356.2.2.2.1 bt356.2.2.2.2.1))))) = some r := h
  clear h
  replace H := Option.bind_eq_some_iff.mp H
  obtain ⟨t355, A40, H⟩ := H
  replace H : ((rto_Start.f a0_0 a0_1 a0_2).bind fun bt356 => ((annexlaw17_right.f a0_0 a0_1 a0_2).bind fun t363 => (if t355 = true then ((annexlaw17_num.f bt356.2.2.2.2.2).bind fun t364 => (annexlaw17_RtoSteady.j0 k a1 a2 t363 ((t364 == 0) != t363) a0_0 a0_1 a0_2 bt356.1 bt356.2.1 bt356.2.2.1 bt356.2.2.2.1 bt356.2.2.2.2.1)) else (annexlaw17_RtoSteady.j0 k a1 a2 t363 true a0_0 a0_1 a0_2 bt356.1 bt356.2.1 bt356.2.2.1 bt356.2.2.2.1 bt356.2.2.2.2.1)))) = some r := H
  have A4 := Aside0.mk A40
  clear A40
  replace H := Option.bind_eq_some_iff.mp H
  obtain ⟨⟨t356, t357, t358, t359, t360, t361⟩, A50, H⟩ := H
  replace H : ((annexlaw17_right.f a0_0 a0_1 a0_2).bind fun t363 => (if t355 = true then ((annexlaw17_num.f t361).bind fun t364 => (annexlaw17_RtoSteady.j0 k a1 a2 t363 ((t364 == 0) != t363) a0_0 a0_1 a0_2 t356 t357 t358 t359 t360)) else (annexlaw17_RtoSteady.j0 k a1 a2 t363 true a0_0 a0_1 a0_2 t356 t357 t358 t359 t360))) = some r := H
  have A5 := Aside0.mk A50
  clear A50
  replace H := Option.bind_eq_some_iff.mp H
  obtain ⟨t363, A60, H⟩ := H
  replace H : (if t355 = true then ((annexlaw17_num.f t361).bind fun t364 => (annexlaw17_RtoSteady.j0 k a1 a2 t363 ((t364 == 0) != t363) a0_0 a0_1 a0_2 t356 t357 t358 t359 t360)) else (annexlaw17_RtoSteady.j0 k a1 a2 t363 true a0_0 a0_1 a0_2 t356 t357 t358 t359 t360)) = some r := H
  have A6 := Aside0.mk A60
  clear A60
  have HC7 := Aside0.mk H
  clear H
  go_enter Tryd.func11, Tryd.ntmps11
  go_upto_region 4 with (first | ((with_reducible refine gate_dst (N := 3) rfl ?_); refine box_event ?hg (N := 3) ?hd (cs := #[.int .i64 a0_0, .int .i64 a0_1, .int .i64 a0_2]) (t := 23) ?hr ?_; (case hd => rfl); (case hg => rfl); (case hr => first | (go_simp; done) | (go_simp; rfl)); intro gb354 hg w8 hbox hb; have n0_ := Aside0.mk (below_step (by repeat (first | (with_reducible first | exact HB.out | apply below_alloc | apply pw_below_drewN | apply below_drew1) | exact HB.out)) hb); have n1_ := Aside0.mk (hbox); have n2_ := Aside0.mk ((by rw [hg]; exact (below_size (by repeat (first | (with_reducible first | exact HB.out | apply below_alloc | apply pw_below_drewN | apply below_drew1) | exact HB.out))) : w.heap.size ≤ gb354)); have n3_ := Aside0.mk ((by rw [hg]; exact (below_size (by repeat (first | (with_reducible first | exact HB.out | apply below_alloc | apply pw_below_drewN | apply below_drew1) | exact HB.out))) : w.heap.size ≤ gb354)); clear HB; have HB := n0_; have BK354 := n1_; have GW354 := n2_; have GE354 := n3_; clear n0_ n1_ n2_ n3_; clear hb hbox hg) | ((with_reducible refine gate_callee (f := 12) rfl ?_); refine goesL_ (some 13) rfl rfl Tryd.func12 (by kernel_rfl) rfl #[] rfl (by (try simp only [List.map_toArray, List.map_cons, List.map_nil]); first | done | rfl | (simp only [List.length_drop, List.length_take]; rfl)) ?_; (with_reducible refine (annexlaw17_known.calls  t355 _ ?side1 A4.out).mono ?_); (case side1 => exact Tied.below HG.out (by repeat (first | (with_reducible first | exact HB.out | apply below_alloc | apply pw_below_drewN | apply below_drew1 | refine below_set ?_ GE354.out) | exact HB.out))); rintro e w9 ⟨rfl, hb⟩; refine ⟨_, rfl, ?_⟩; have n0_ := Aside0.mk (blk_below (g := gb354) (o := .cells #[.int .i64 a0_0, .int .i64 a0_1, .int .i64 a0_2] 23 (0, 0)) (by (with_reducible repeat (first | refine blk_drewN ?_ _ | refine blk_drew ?_ | refine blk_alloc ?_ _)); exact BK354.out) hb); have n1_ := Aside0.mk (below_step (by repeat (first | (with_reducible first | exact HB.out | apply below_alloc | apply pw_below_drewN | apply below_drew1 | refine below_set ?_ GE354.out) | exact HB.out)) hb); clear BK354; clear HB; have BK354 := n0_; have HB := n1_; clear n0_ n1_; (try clear hb); (try clear hb2); (try clear hk); (try clear hi); have hcz10_0 : w9.cell? ⟨gb354, 0, none⟩ = some (.int .i64 a0_0) := (blk_cell BK354.out 0).trans rfl; have hcz10_1 : w9.cell? ⟨gb354, 1, none⟩ = some (.int .i64 a0_1) := (blk_cell BK354.out 1).trans rfl; have hcz10_2 : w9.cell? ⟨gb354, 2, none⟩ = some (.int .i64 a0_2) := (blk_cell BK354.out 2).trans rfl; have hfz10_0 := blk_frozen BK354.out 0; have hfz10_1 := blk_frozen BK354.out 1; have hfz10_2 := blk_frozen BK354.out 2) | ((with_reducible refine gate_callee (f := 13) rfl ?_); refine goesL_ (some 16) rfl rfl Tryd.func13 (by kernel_rfl) rfl #[.agg #[.int .i64 a0_0, .int .i64 a0_1, .int .i64 a0_2]] rfl (by (try simp only [List.map_toArray, List.map_cons, List.map_nil]); first | done | rfl | (simp only [List.length_drop, List.length_take]; rfl)) ?_; (with_reducible refine (rto_Start.calls a0_0 a0_1 a0_2 t356 t357 t358 t359 t360 t361 _ ?side1 A5.out).mono ?_); (case side1 => exact Tied.below HG.out (by repeat (first | (with_reducible first | exact HB.out | apply below_alloc | apply pw_below_drewN | apply below_drew1 | refine below_set ?_ GE354.out) | exact HB.out))); rintro e w11 ⟨rfl, hb⟩; refine ⟨_, rfl, ?_⟩; have n0_ := Aside0.mk (blk_below (g := gb354) (o := .cells #[.int .i64 a0_0, .int .i64 a0_1, .int .i64 a0_2] 23 (0, 0)) (by (with_reducible repeat (first | refine blk_drewN ?_ _ | refine blk_drew ?_ | refine blk_alloc ?_ _)); exact BK354.out) hb); have n1_ := Aside0.mk (below_step (by repeat (first | (with_reducible first | exact HB.out | apply below_alloc | apply pw_below_drewN | apply below_drew1 | refine below_set ?_ GE354.out) | exact HB.out)) hb); clear BK354; clear HB; have BK354 := n0_; have HB := n1_; clear n0_ n1_; (try clear hb); (try clear hb2); (try clear hk); (try clear hi)) | ((with_reducible refine gate_dst (N := 8) rfl ?_); refine box_event ?hg (N := 8) ?hd (cs := #[.int .i64 0, .int .i64 0, .int .i64 0, .int .i64 0, .bool false]) (t := 26) ?hr ?_; (case hd => rfl); (case hg => rfl); (case hr => first | (go_simp; done) | (go_simp; rfl)); intro gb362 hg w12 hbox hb; have n0_ := Aside0.mk (blk_below (g := gb354) (o := .cells #[.int .i64 a0_0, .int .i64 a0_1, .int .i64 a0_2] 23 (0, 0)) (by (with_reducible repeat (first | refine blk_drewN ?_ _ | refine blk_drew ?_ | refine blk_alloc ?_ _)); exact BK354.out) hb); have n1_ := Aside0.mk (below_step (by repeat (first | (with_reducible first | exact HB.out | apply below_alloc | apply pw_below_drewN | apply below_drew1 | refine below_set ?_ GE354.out) | exact HB.out)) hb); have n2_ := Aside0.mk (hbox); have n3_ := Aside0.mk ((by rw [hg]; exact (below_size (by repeat (first | (with_reducible first | exact HB.out | apply below_alloc | apply pw_below_drewN | apply below_drew1 | refine below_set ?_ GE354.out) | exact HB.out))) : w.heap.size ≤ gb362)); have n4_ := Aside0.mk ((by rw [hg]; exact (below_size (by repeat (first | (with_reducible first | exact HB.out | apply below_alloc | apply pw_below_drewN | apply below_drew1 | refine below_set ?_ GE354.out) | exact HB.out))) : w.heap.size ≤ gb362)); have n5_ := Aside0.mk ((by rw [hg]; exact Nat.ne_of_lt (blk_lt (g := gb354) (o := .cells #[.int .i64 a0_0, .int .i64 a0_1, .int .i64 a0_2] 23 (0, 0)) (by (with_reducible repeat (first | refine blk_drewN ?_ _ | refine blk_drew ?_ | refine blk_alloc ?_ _)); exact BK354.out)) : gb354 ≠ gb362)); have n6_ := Aside0.mk ((by rw [hg]; exact Nat.ne_of_gt (blk_lt (g := gb354) (o := .cells #[.int .i64 a0_0, .int .i64 a0_1, .int .i64 a0_2] 23 (0, 0)) (by (with_reducible repeat (first | refine blk_drewN ?_ _ | refine blk_drew ?_ | refine blk_alloc ?_ _)); exact BK354.out)) : gb362 ≠ gb354)); clear BK354; clear HB; have BK354 := n0_; have HB := n1_; have BK362 := n2_; have GW362 := n3_; have GE362 := n4_; have NB354_362 := n5_; have NB362_354 := n6_; clear n0_ n1_ n2_ n3_ n4_ n5_ n6_; clear hb hbox hg; have hnb13 := NB362_354.out; have hnc13 := NB354_362.out; have hcz14_0 : w12.cell? ⟨gb362, 0, none⟩ = some (.int .i64 0) := (blk_cell BK362.out 0).trans rfl; have hcz14_1 : w12.cell? ⟨gb362, 1, none⟩ = some (.int .i64 0) := (blk_cell BK362.out 1).trans rfl; have hcz14_2 : w12.cell? ⟨gb362, 2, none⟩ = some (.int .i64 0) := (blk_cell BK362.out 2).trans rfl; have hcz14_3 : w12.cell? ⟨gb362, 3, none⟩ = some (.int .i64 0) := (blk_cell BK362.out 3).trans rfl; have hcz14_4 : w12.cell? ⟨gb362, 4, none⟩ = some (.bool false) := (blk_cell BK362.out 4).trans rfl; have hfz14_0 := blk_frozen BK362.out 0; have hfz14_1 := blk_frozen BK362.out 1; have hfz14_2 := blk_frozen BK362.out 2; have hfz14_3 := blk_frozen BK362.out 3; have hfz14_4 := blk_frozen BK362.out 4; have hcz15_0 : w12.cell? ⟨gb354, 0, none⟩ = some (.int .i64 a0_0) := (blk_cell BK354.out 0).trans rfl; have hcz15_1 : w12.cell? ⟨gb354, 1, none⟩ = some (.int .i64 a0_1) := (blk_cell BK354.out 1).trans rfl; have hcz15_2 : w12.cell? ⟨gb354, 2, none⟩ = some (.int .i64 a0_2) := (blk_cell BK354.out 2).trans rfl; have hfz15_0 := blk_frozen BK354.out 0; have hfz15_1 := blk_frozen BK354.out 1; have hfz15_2 := blk_frozen BK354.out 2) | ((with_reducible refine gate_callee (f := 23) rfl ?_); refine goesL_ (some 20) rfl rfl Tryd.func23 (by kernel_rfl) rfl #[.agg #[.int .i64 a0_0, .int .i64 a0_1, .int .i64 a0_2]] rfl (by (try simp only [List.map_toArray, List.map_cons, List.map_nil]); first | done | rfl | (simp only [List.length_drop, List.length_take]; rfl)) ?_; (with_reducible refine (annexlaw17_right.calls a0_0 a0_1 a0_2 t363 _ A6.out).mono ?_); rintro e w16 ⟨rfl, hb⟩; refine ⟨_, rfl, ?_⟩; have n0_ := Aside0.mk (blk_below (g := gb354) (o := .cells #[.int .i64 a0_0, .int .i64 a0_1, .int .i64 a0_2] 23 (0, 0)) (by (with_reducible repeat (first | refine blk_drewN ?_ _ | refine blk_drew ?_ | refine blk_alloc ?_ _)); refine blk_far ?_ NB354_362.out _; (with_reducible repeat (first | refine blk_drewN ?_ _ | refine blk_drew ?_ | refine blk_alloc ?_ _)); refine blk_far ?_ NB354_362.out _; (with_reducible repeat (first | refine blk_drewN ?_ _ | refine blk_drew ?_ | refine blk_alloc ?_ _)); refine blk_far ?_ NB354_362.out _; (with_reducible repeat (first | refine blk_drewN ?_ _ | refine blk_drew ?_ | refine blk_alloc ?_ _)); refine blk_far ?_ NB354_362.out _; (with_reducible repeat (first | refine blk_drewN ?_ _ | refine blk_drew ?_ | refine blk_alloc ?_ _)); refine blk_far ?_ NB354_362.out _; (with_reducible repeat (first | refine blk_drewN ?_ _ | refine blk_drew ?_ | refine blk_alloc ?_ _)); exact BK354.out) hb); have n1_ := Aside0.mk (blk_below (g := gb362) (o := .cells #[.int .i64 t356, .int .i64 t357, .int .i64 t358, .int .i64 t359, .bool t360] 26 (0, 0)) (by (with_reducible repeat (first | refine blk_drewN ?_ _ | refine blk_drew ?_ | refine blk_alloc ?_ _)); refine blk_put (cs := #[.int .i64 t356, .int .i64 t357, .int .i64 t358, .int .i64 t359, .bool false]) ?_ 4 _ rfl; (with_reducible repeat (first | refine blk_drewN ?_ _ | refine blk_drew ?_ | refine blk_alloc ?_ _)); refine blk_put (cs := #[.int .i64 t356, .int .i64 t357, .int .i64 t358, .int .i64 0, .bool false]) ?_ 3 _ rfl; (with_reducible repeat (first | refine blk_drewN ?_ _ | refine blk_drew ?_ | refine blk_alloc ?_ _)); refine blk_put (cs := #[.int .i64 t356, .int .i64 t357, .int .i64 0, .int .i64 0, .bool false]) ?_ 2 _ rfl; (with_reducible repeat (first | refine blk_drewN ?_ _ | refine blk_drew ?_ | refine blk_alloc ?_ _)); refine blk_put (cs := #[.int .i64 t356, .int .i64 0, .int .i64 0, .int .i64 0, .bool false]) ?_ 1 _ rfl; (with_reducible repeat (first | refine blk_drewN ?_ _ | refine blk_drew ?_ | refine blk_alloc ?_ _)); refine blk_put (cs := #[.int .i64 0, .int .i64 0, .int .i64 0, .int .i64 0, .bool false]) ?_ 0 _ rfl; (with_reducible repeat (first | refine blk_drewN ?_ _ | refine blk_drew ?_ | refine blk_alloc ?_ _)); exact BK362.out) hb); have n2_ := Aside0.mk (below_step (by repeat (first | (with_reducible first | exact HB.out | apply below_alloc | apply pw_below_drewN | apply below_drew1 | refine below_set ?_ GE354.out | refine below_set ?_ GE362.out) | exact HB.out)) hb); clear BK354; clear BK362; clear HB; have BK354 := n0_; have BK362 := n1_; have HB := n2_; clear n0_ n1_ n2_; (try clear hb); (try clear hb2); (try clear hk); (try clear hi)))
  (try simp only [Act.put, List.setIfInBounds_toArray, List.set_cons_zero, List.set_cons_succ])
  go_cut [29] (fun v29 wc => ∃ (kq : Nat) (x29_6 : Bool), v29 = .bool x29_6 ∧ Aside0 (annexlaw17_RtoSteady.j0 kq a1 a2 t363 x29_6 a0_0 a0_1 a0_2 t356 t357 t358 t359 t360 = some r) ∧ Aside0 (kq ≤ k) ∧ Aside0 (wc.heap[gb354]? = some (.cells #[.int .i64 a0_0, .int .i64 a0_1, .int .i64 a0_2] 23 (0, 0))) ∧ Aside0 (wc.heap[gb362]? = some (.cells #[.int .i64 t356, .int .i64 t357, .int .i64 t358, .int .i64 t359, .bool t360] 26 (0, 0))) ∧ Aside0 (Below w.heap.size w wc))
  case first =>
    have H := HC7.out
    clear HC7
    by_cases c17 : t355 = true
    · subst c17
      have H1 : ((annexlaw17_num.f t361).bind fun t364 => (annexlaw17_RtoSteady.j0 k a1 a2 t363 ((t364 == 0) != t363) a0_0 a0_1 a0_2 t356 t357 t358 t359 t360)) = some r := by rw [if_pos rfl] at H; exact H
      clear H
      have H := H1
      clear H1
      replace H := Option.bind_eq_some_iff.mp H
      obtain ⟨t364, A180, H⟩ := H
      replace H : (annexlaw17_RtoSteady.j0 k a1 a2 t363 ((t364 == 0) != t363) a0_0 a0_1 a0_2 t356 t357 t358 t359 t360) = some r := H
      have A18 := Aside0.mk A180
      clear A180
      have H' := Aside0.mk H
      clear H
      go_wp2_with (first | (go_at_call 16; (with_reducible refine (annexlaw17_num.calls t361 t364 _ A18.out).mono ?_); rintro e w' ⟨rfl, ⟨nd, rfl⟩⟩))
      go_meet
      case rel => exact ⟨_, (((t364 == 0) != t363)), (by first | rfl | (simp; done) | (simp [*]; done)), H', ⟨by first | omega | exact Nat.le_refl _⟩, ⟨by (with_reducible repeat (first | refine blk_drewN ?_ _ | refine blk_drew ?_ | refine blk_alloc ?_ _)); exact BK354.out⟩, ⟨by (with_reducible repeat (first | refine blk_drewN ?_ _ | refine blk_drew ?_ | refine blk_alloc ?_ _)); exact BK362.out⟩, ⟨by repeat (first | (with_reducible first | exact HB.out | apply below_alloc | apply pw_below_drewN | apply below_drew1 | refine below_set ?_ GE354.out | refine below_set ?_ GE362.out) | exact HB.out)⟩⟩
    · replace c17 := Bool.eq_false_iff.mpr c17
      subst c17
      have H1 : (annexlaw17_RtoSteady.j0 k a1 a2 t363 true a0_0 a0_1 a0_2 t356 t357 t358 t359 t360) = some r := by rw [if_neg (show ¬ (false = true) by decide)] at H; exact H
      clear H
      have H := H1
      clear H1
      have H' := Aside0.mk H
      clear H
      go_wp2
      go_meet
      case rel => exact ⟨_, (true), (by first | rfl | (simp; done) | (simp [*]; done)), H', ⟨by first | omega | exact Nat.le_refl _⟩, ⟨by (with_reducible repeat (first | refine blk_drewN ?_ _ | refine blk_drew ?_ | refine blk_alloc ?_ _)); exact BK354.out⟩, ⟨by (with_reducible repeat (first | refine blk_drewN ?_ _ | refine blk_drew ?_ | refine blk_alloc ?_ _)); exact BK362.out⟩, ⟨by repeat (first | (with_reducible first | exact HB.out | apply below_alloc | apply pw_below_drewN | apply below_drew1 | refine below_set ?_ GE354.out | refine below_set ?_ GE362.out) | exact HB.out)⟩⟩
  case rest =>
    clear HC7
    try clear c1
    try clear c2
    try clear p2
    try clear c11
    try clear c12
    try clear c13
    try clear c17
    try clear hcz10_0
    try clear hcz10_1
    try clear hcz10_2
    try clear hcz14_0
    try clear hcz14_1
    try clear hcz14_2
    try clear hcz14_3
    try clear hcz14_4
    try clear hcz15_0
    try clear hcz15_1
    try clear hcz15_2
    try clear hfz10_0
    try clear hfz10_1
    try clear hfz10_2
    try clear hfz14_0
    try clear hfz14_1
    try clear hfz14_2
    try clear hfz14_3
    try clear hfz14_4
    try clear hfz15_0
    try clear hfz15_1
    try clear hfz15_2
    obtain ⟨kq, x29_6, rfl, HA, HJ6, BK354, BK362, HB⟩ := hcut
    cases kq with
    | zero => exact absurd HA.out (by simp [annexlaw17_RtoSteady.j0])
    | succ kj6 =>
      have H := HA.out
      clear HA
      simp only [annexlaw17_RtoSteady.j0] at H
      by_cases c19 : x29_6 = true
      · subst c19
        have H1 : (some false) = some r := by rw [if_pos rfl] at H; exact H
        clear H
        have H := H1
        clear H1
        obtain rfl := Option.some.inj H
        go_wp2
        go_ret
        exact ⟨by first | rfl | (simp [errW_none, errW_some] <;> rfl) | (simp [*, errW_none, errW_some] <;> rfl), by repeat (first | (with_reducible first | exact HB.out | apply below_alloc | apply pw_below_drewN | apply below_drew1 | refine below_set ?_ GE354.out | refine below_set ?_ GE362.out) | exact HB.out)⟩
      · replace c19 := Bool.eq_false_iff.mpr c19
        subst c19
        have H1 : (if t363 = true then (if a1 < 1 then (annexlaw17_RtoSteady.j1 kj6 a1 a2 true a0_0 a0_1 a0_2 t356 t357 t358 t359 t360) else (annexlaw17_RtoSteady.j1 kj6 a1 a2 (decide (a1 > 1048576)) a0_0 a0_1 a0_2 t356 t357 t358 t359 t360)) else (annexlaw17_RtoSteady.j1 kj6 a1 a2 true a0_0 a0_1 a0_2 t356 t357 t358 t359 t360)) = some r := by rw [if_neg (show ¬ (false = true) by decide)] at H; exact H
        clear H
        have H := H1
        clear H1
        have HC20 := Aside0.mk H
        clear H
        go_upto_region 6 with (fail)
        go_cut [39] (fun v39 wc => ∃ (kq : Nat) (x39_19 : Bool), v39 = .bool x39_19 ∧ Aside0 (annexlaw17_RtoSteady.j1 kq a1 a2 x39_19 a0_0 a0_1 a0_2 t356 t357 t358 t359 t360 = some r) ∧ Aside0 (kq ≤ kj6) ∧ Aside0 (wc.heap[gb354]? = some (.cells #[.int .i64 a0_0, .int .i64 a0_1, .int .i64 a0_2] 23 (0, 0))) ∧ Aside0 (wc.heap[gb362]? = some (.cells #[.int .i64 t356, .int .i64 t357, .int .i64 t358, .int .i64 t359, .bool t360] 26 (0, 0))) ∧ Aside0 (Below w.heap.size w wc))
        case first =>
          have H := HC20.out
          clear HC20
          by_cases c21 : t363 = true
          · subst c21
            have H1 : (if a1 < 1 then (annexlaw17_RtoSteady.j1 kj6 a1 a2 true a0_0 a0_1 a0_2 t356 t357 t358 t359 t360) else (annexlaw17_RtoSteady.j1 kj6 a1 a2 (decide (a1 > 1048576)) a0_0 a0_1 a0_2 t356 t357 t358 t359 t360)) = some r := by rw [if_pos rfl] at H; exact H
            clear H
            have H := H1
            clear H1
            by_cases c22 : a1 < 1
            · rw [if_pos c22] at H
              have c22b0 : decide (a1 < 1) = true := decide_eq_true c22
              clear c22
              (first | rw [c22b0] | (simp only [i64_w, i32_w]; rw [c22b0]) | skip)
              have H' := Aside0.mk H
              clear H
              go_wp2
              go_meet
              case rel => exact ⟨_, (true), (by first | rfl | (simp; done) | (simp [*]; done)), H', ⟨by have := HJ6.out; first | omega | exact Nat.le_refl _⟩, ⟨by (with_reducible repeat (first | refine blk_drewN ?_ _ | refine blk_drew ?_ | refine blk_alloc ?_ _)); exact BK354.out⟩, ⟨by (with_reducible repeat (first | refine blk_drewN ?_ _ | refine blk_drew ?_ | refine blk_alloc ?_ _)); exact BK362.out⟩, ⟨by repeat (first | (with_reducible first | exact HB.out | apply below_alloc | apply pw_below_drewN | apply below_drew1 | refine below_set ?_ GE354.out | refine below_set ?_ GE362.out) | exact HB.out)⟩⟩
            · rw [if_neg c22] at H
              have c22b0 : decide (a1 < 1) = false := decide_eq_false c22
              clear c22
              (first | rw [c22b0] | (simp only [i64_w, i32_w]; rw [c22b0]) | skip)
              have H' := Aside0.mk H
              clear H
              go_wp2
              go_meet
              case rel => exact ⟨_, (decide (a1 > 1048576)), (by first | rfl | (simp; done) | (simp [*]; done)), H', ⟨by have := HJ6.out; first | omega | exact Nat.le_refl _⟩, ⟨by (with_reducible repeat (first | refine blk_drewN ?_ _ | refine blk_drew ?_ | refine blk_alloc ?_ _)); exact BK354.out⟩, ⟨by (with_reducible repeat (first | refine blk_drewN ?_ _ | refine blk_drew ?_ | refine blk_alloc ?_ _)); exact BK362.out⟩, ⟨by repeat (first | (with_reducible first | exact HB.out | apply below_alloc | apply pw_below_drewN | apply below_drew1 | refine below_set ?_ GE354.out | refine below_set ?_ GE362.out) | exact HB.out)⟩⟩
          · replace c21 := Bool.eq_false_iff.mpr c21
            subst c21
            have H1 : (annexlaw17_RtoSteady.j1 kj6 a1 a2 true a0_0 a0_1 a0_2 t356 t357 t358 t359 t360) = some r := by rw [if_neg (show ¬ (false = true) by decide)] at H; exact H
            clear H
            have H := H1
            clear H1
            have H' := Aside0.mk H
            clear H
            go_wp2
            go_meet
            case rel => exact ⟨_, (true), (by first | rfl | (simp; done) | (simp [*]; done)), H', ⟨by have := HJ6.out; first | omega | exact Nat.le_refl _⟩, ⟨by (with_reducible repeat (first | refine blk_drewN ?_ _ | refine blk_drew ?_ | refine blk_alloc ?_ _)); exact BK354.out⟩, ⟨by (with_reducible repeat (first | refine blk_drewN ?_ _ | refine blk_drew ?_ | refine blk_alloc ?_ _)); exact BK362.out⟩, ⟨by repeat (first | (with_reducible first | exact HB.out | apply below_alloc | apply pw_below_drewN | apply below_drew1 | refine below_set ?_ GE354.out | refine below_set ?_ GE362.out) | exact HB.out)⟩⟩
        case rest =>
          clear HC20
          try clear c1
          try clear c2
          try clear p2
          try clear c11
          try clear c12
          try clear c13
          try clear c17
          try clear c19
          try clear c21
          try clear c22
          try clear c22b0
          try clear hcz10_0
          try clear hcz10_1
          try clear hcz10_2
          try clear hcz14_0
          try clear hcz14_1
          try clear hcz14_2
          try clear hcz14_3
          try clear hcz14_4
          try clear hcz15_0
          try clear hcz15_1
          try clear hcz15_2
          try clear hfz10_0
          try clear hfz10_1
          try clear hfz10_2
          try clear hfz14_0
          try clear hfz14_1
          try clear hfz14_2
          try clear hfz14_3
          try clear hfz14_4
          try clear hfz15_0
          try clear hfz15_1
          try clear hfz15_2
          try clear p2
          obtain ⟨kq, x39_19, rfl, HA, HJ19, BK354, BK362, HB⟩ := hcut
          cases kq with
          | zero => exact absurd HA.out (by simp [annexlaw17_RtoSteady.j1])
          | succ kj19 =>
            have H := HA.out
            clear HA
            simp only [annexlaw17_RtoSteady.j1] at H
            by_cases c23 : x39_19 = true
            · subst c23
              have H1 : (some true) = some r := by rw [if_pos rfl] at H; exact H
              clear H
              have H := H1
              clear H1
              obtain rfl := Option.some.inj H
              go_wp2
              go_ret
              exact ⟨by first | rfl | (simp [errW_none, errW_some] <;> rfl) | (simp [*, errW_none, errW_some] <;> rfl), by repeat (first | (with_reducible first | exact HB.out | apply below_alloc | apply pw_below_drewN | apply below_drew1 | refine below_set ?_ GE354.out | refine below_set ?_ GE362.out) | exact HB.out)⟩
            · replace c23 := Bool.eq_false_iff.mpr c23
              subst c23
              have H1 : (annexlaw17_RtoSteady.l0 kj19 a1 a2 1073741824 0 a0_0 a0_1 a0_2 t356 t357 t358 t359 t360) = some r := by rw [if_neg (show ¬ (false = true) by decide)] at H; exact H
              clear H
              have H := H1
              clear H1
              have H' := Aside0.mk H
              clear H
              go_wp2
              go_loopg [11, 12] kj19 (fun kq v11 v12 w' => ∃ (x11_3 : Int) (x12_3 : Int) (x363000_3 : Int) (x363001_3 : Int) (x363002_3 : Int) (x363003_3 : Int) (x363004_3 : Bool), v11 = .int .i64 x11_3 ∧ v12 = .int .i64 x12_3 ∧ Aside0 (annexlaw17_RtoSteady.l0 kq a1 a2 x11_3 x12_3 a0_0 a0_1 a0_2 x363000_3 x363001_3 x363002_3 x363003_3 x363004_3 = some r) ∧ Aside0 (kq ≤ kj19) ∧ Aside0 (w'.heap[gb354]? = some (.cells #[.int .i64 a0_0, .int .i64 a0_1, .int .i64 a0_2] 23 (0, 0))) ∧ Aside0 (w'.heap[gb362]? = some (.cells #[.int .i64 x363000_3, .int .i64 x363001_3, .int .i64 x363002_3, .int .i64 x363003_3, .bool x363004_3] 26 (0, 0))) ∧ Aside0 (Below w.heap.size w w'))
              case atStart => exact ⟨(1073741824), (0), (t356), (t357), (t358), (t359), (t360), (by first | rfl | (simp; done) | (simp [*]; done)), (by first | rfl | (simp; done) | (simp [*]; done)), H', ⟨Nat.le_refl _⟩, ⟨by (with_reducible repeat (first | refine blk_drewN ?_ _ | refine blk_drew ?_ | refine blk_alloc ?_ _)); exact BK354.out⟩, ⟨by (with_reducible repeat (first | refine blk_drewN ?_ _ | refine blk_drew ?_ | refine blk_alloc ?_ _)); exact BK362.out⟩, ⟨by repeat (first | (with_reducible first | exact HB.out | apply below_alloc | apply pw_below_drewN | apply below_drew1 | refine below_set ?_ GE354.out | refine below_set ?_ GE362.out) | exact HB.out)⟩⟩
              case round =>
                clear H'
                try clear c1
                try clear c2
                try clear p2
                try clear c11
                try clear c12
                try clear c13
                try clear c17
                try clear c19
                try clear c21
                try clear c22
                try clear c22b0
                try clear c23
                try clear hcz10_0
                try clear hcz10_1
                try clear hcz10_2
                try clear hcz14_0
                try clear hcz14_1
                try clear hcz14_2
                try clear hcz14_3
                try clear hcz14_4
                try clear hcz15_0
                try clear hcz15_1
                try clear hcz15_2
                try clear hfz10_0
                try clear hfz10_1
                try clear hfz10_2
                try clear hfz14_0
                try clear hfz14_1
                try clear hfz14_2
                try clear hfz14_3
                try clear hfz14_4
                try clear hfz15_0
                try clear hfz15_1
                try clear hfz15_2
                try clear p2
                obtain ⟨x11_3, x12_3, x363000_3, x363001_3, x363002_3, x363003_3, x363004_3, rfl, rfl, HA, HK3, BK354, BK362, HB⟩ := hrel
                cases gk with
                | zero => exact absurd HA.out (by simp [annexlaw17_RtoSteady.l0])
                | succ k3 =>
                  have H := HA.out
                  clear HA
                  simp only [annexlaw17_RtoSteady.l0] at H
                  have HC24 := Aside0.mk H
                  clear H
                  go_upto_region 10 with (fail)
                  go_cut [46] (fun v46 wc => ∃ (kq : Nat) (x46_23 : Bool), v46 = .bool x46_23 ∧ Aside0 (annexlaw17_RtoSteady.j3 kq a1 a2 x11_3 x12_3 x46_23 a0_0 a0_1 a0_2 x363000_3 x363001_3 x363002_3 x363003_3 x363004_3 = some r) ∧ Aside0 (kq ≤ k3) ∧ Aside0 (wc.heap[gb354]? = some (.cells #[.int .i64 a0_0, .int .i64 a0_1, .int .i64 a0_2] 23 (0, 0))) ∧ Aside0 (wc.heap[gb362]? = some (.cells #[.int .i64 x363000_3, .int .i64 x363001_3, .int .i64 x363002_3, .int .i64 x363003_3, .bool x363004_3] 26 (0, 0))) ∧ Aside0 (Below w.heap.size w wc))
                  case first =>
                    have H := HC24.out
                    clear HC24
                    by_cases c25 : x12_3 < a2
                    · rw [if_pos c25] at H
                      have c25b0 : decide (x12_3 < a2) = true := decide_eq_true c25
                      clear c25
                      (first | rw [c25b0] | (simp only [i64_w, i32_w]; rw [c25b0]) | skip)
                      have H' := Aside0.mk H
                      clear H
                      go_wp2
                      go_meet
                      case rel => exact ⟨_, (decide (x12_3 < 300)), (by first | rfl | (simp; done) | (simp [*]; done)), H', ⟨by have := HJ6.out; have := HJ19.out; have := HK3.out; first | omega | exact Nat.le_refl _⟩, ⟨by (with_reducible repeat (first | refine blk_drewN ?_ _ | refine blk_drew ?_ | refine blk_alloc ?_ _)); exact BK354.out⟩, ⟨by (with_reducible repeat (first | refine blk_drewN ?_ _ | refine blk_drew ?_ | refine blk_alloc ?_ _)); exact BK362.out⟩, ⟨by repeat (first | (with_reducible first | exact HB.out | apply below_alloc | apply pw_below_drewN | apply below_drew1 | refine below_set ?_ GE354.out | refine below_set ?_ GE362.out) | exact HB.out)⟩⟩
                    · rw [if_neg c25] at H
                      have c25b0 : decide (x12_3 < a2) = false := decide_eq_false c25
                      clear c25
                      (first | rw [c25b0] | (simp only [i64_w, i32_w]; rw [c25b0]) | skip)
                      have H' := Aside0.mk H
                      clear H
                      go_wp2
                      go_meet
                      case rel => exact ⟨_, (false), (by first | rfl | (simp; done) | (simp [*]; done)), H', ⟨by have := HJ6.out; have := HJ19.out; have := HK3.out; first | omega | exact Nat.le_refl _⟩, ⟨by (with_reducible repeat (first | refine blk_drewN ?_ _ | refine blk_drew ?_ | refine blk_alloc ?_ _)); exact BK354.out⟩, ⟨by (with_reducible repeat (first | refine blk_drewN ?_ _ | refine blk_drew ?_ | refine blk_alloc ?_ _)); exact BK362.out⟩, ⟨by repeat (first | (with_reducible first | exact HB.out | apply below_alloc | apply pw_below_drewN | apply below_drew1 | refine below_set ?_ GE354.out | refine below_set ?_ GE362.out) | exact HB.out)⟩⟩
                  case rest =>
                    clear HC24
                    try clear c1
                    try clear c2
                    try clear p2
                    try clear c11
                    try clear c12
                    try clear c13
                    try clear c17
                    try clear c19
                    try clear c21
                    try clear c22
                    try clear c22b0
                    try clear c23
                    try clear c25
                    try clear c25b0
                    try clear hcz10_0
                    try clear hcz10_1
                    try clear hcz10_2
                    try clear hcz14_0
                    try clear hcz14_1
                    try clear hcz14_2
                    try clear hcz14_3
                    try clear hcz14_4
                    try clear hcz15_0
                    try clear hcz15_1
                    try clear hcz15_2
                    try clear hfz10_0
                    try clear hfz10_1
                    try clear hfz10_2
                    try clear hfz14_0
                    try clear hfz14_1
                    try clear hfz14_2
                    try clear hfz14_3
                    try clear hfz14_4
                    try clear hfz15_0
                    try clear hfz15_1
                    try clear hfz15_2
                    try clear p2
                    obtain ⟨kq, x46_23, rfl, HA, HJ23, BK354, BK362, HB⟩ := hcut
                    cases kq with
                    | zero => exact absurd HA.out (by simp [annexlaw17_RtoSteady.j3])
                    | succ kj23 =>
                      have H := HA.out
                      clear HA
                      simp only [annexlaw17_RtoSteady.j3] at H
                      by_cases c26 : x46_23 = true
                      · subst c26
                        have H1 : ((rto_Sample.f a0_0 a0_1 a0_2 x363000_3 x363001_3 x363002_3 x363003_3 x363004_3 a1).bind fun bt365 => (if bt365.1 = (wrap64 (8 * a1)) then (if bt365.2.1 > x11_3 then (some false) else (if x12_3 ≥ 64 then (if bt365.2.1 > 3 then (some false) else (annexlaw17_RtoSteady.l0 kj23 a1 a2 bt365.2.1 (wrap64 (x12_3 + 1)) a0_0 a0_1 a0_2 bt365.1 bt365.2.1 bt365.2.2.1 bt365.2.2.2.1 bt365.2.2.2.2)) else (annexlaw17_RtoSteady.l0 kj23 a1 a2 bt365.2.1 (wrap64 (x12_3 + 1)) a0_0 a0_1 a0_2 bt365.1 bt365.2.1 bt365.2.2.1 bt365.2.2.2.1 bt365.2.2.2.2))) else (some false))) = some r := by rw [if_pos rfl] at H; exact H
                        clear H
                        have H := H1
                        clear H1
                        replace H := Option.bind_eq_some_iff.mp H
                        obtain ⟨⟨t365, t366, t367, t368, t369⟩, A270, H⟩ := H
                        replace H : (if t365 = (wrap64 (8 * a1)) then (if t366 > x11_3 then (some false) else (if x12_3 ≥ 64 then (if t366 > 3 then (some false) else (annexlaw17_RtoSteady.l0 kj23 a1 a2 t366 (wrap64 (x12_3 + 1)) a0_0 a0_1 a0_2 t365 t366 t367 t368 t369)) else (annexlaw17_RtoSteady.l0 kj23 a1 a2 t366 (wrap64 (x12_3 + 1)) a0_0 a0_1 a0_2 t365 t366 t367 t368 t369))) else (some false)) = some r := H
                        have A27 := Aside0.mk A270
                        clear A270
                        by_cases c28 : t365 = (wrap64 (8 * a1))
                        · rw [if_pos c28] at H
                          have c28b0 : (t365 == (wrap64 (8 * a1))) = true := beq_iff_eq.mpr c28
                          have c28b1 : (t365 != (wrap64 (8 * a1))) = false := bne_eq_false_iff_eq.mpr c28
                          clear c28
                          by_cases c29 : t366 > x11_3
                          · rw [if_pos c29] at H
                            have c29b0 : decide (x11_3 < t366) = true := decide_eq_true c29
                            clear c29
                            obtain rfl := Option.some.inj H
                            have hnb30 := NB354_362.out
                            have hnc30 := NB362_354.out
                            have hcz31_0 : wc.cell? ⟨gb354, 0, none⟩ = some (.int .i64 a0_0) := (blk_cell BK354.out 0).trans rfl
                            have hcz31_1 : wc.cell? ⟨gb354, 1, none⟩ = some (.int .i64 a0_1) := (blk_cell BK354.out 1).trans rfl
                            have hcz31_2 : wc.cell? ⟨gb354, 2, none⟩ = some (.int .i64 a0_2) := (blk_cell BK354.out 2).trans rfl
                            have hfz31_0 := blk_frozen BK354.out 0
                            have hfz31_1 := blk_frozen BK354.out 1
                            have hfz31_2 := blk_frozen BK354.out 2
                            have hcz32_0 : wc.cell? ⟨gb362, 0, none⟩ = some (.int .i64 x363000_3) := (blk_cell BK362.out 0).trans rfl
                            have hcz32_1 : wc.cell? ⟨gb362, 1, none⟩ = some (.int .i64 x363001_3) := (blk_cell BK362.out 1).trans rfl
                            have hcz32_2 : wc.cell? ⟨gb362, 2, none⟩ = some (.int .i64 x363002_3) := (blk_cell BK362.out 2).trans rfl
                            have hcz32_3 : wc.cell? ⟨gb362, 3, none⟩ = some (.int .i64 x363003_3) := (blk_cell BK362.out 3).trans rfl
                            have hcz32_4 : wc.cell? ⟨gb362, 4, none⟩ = some (.bool x363004_3) := (blk_cell BK362.out 4).trans rfl
                            have hfz32_0 := blk_frozen BK362.out 0
                            have hfz32_1 := blk_frozen BK362.out 1
                            have hfz32_2 := blk_frozen BK362.out 2
                            have hfz32_3 := blk_frozen BK362.out 3
                            have hfz32_4 := blk_frozen BK362.out 4
                            go_wp2_with (first | ((with_reducible refine gate_callee (f := 17) rfl ?_); refine goesL_ (some 52) rfl rfl Tryd.func17 (by kernel_rfl) rfl #[.agg #[.int .i64 a0_0, .int .i64 a0_1, .int .i64 a0_2], .agg #[.int .i64 x363000_3, .int .i64 x363001_3, .int .i64 x363002_3, .int .i64 x363003_3, .bool x363004_3], .int .i64 a1] rfl (by (try simp only [List.map_toArray, List.map_cons, List.map_nil]); first | done | rfl | (simp only [List.length_drop, List.length_take]; rfl)) ?_; (with_reducible refine (rto_Sample.calls a0_0 a0_1 a0_2 x363000_3 x363001_3 x363002_3 x363003_3 x363004_3 a1 t365 t366 t367 t368 t369 _ ?side1 A27.out).mono ?_); (case side1 => exact Tied.below HG.out (by repeat (first | (with_reducible first | exact HB.out | apply below_alloc | apply pw_below_drewN | apply below_drew1 | refine below_set ?_ GE354.out | refine below_set ?_ GE362.out) | exact HB.out))); rintro e w33 ⟨rfl, hb⟩; refine ⟨_, rfl, ?_⟩; have n0_ := Aside0.mk (blk_below (g := gb354) (o := .cells #[.int .i64 a0_0, .int .i64 a0_1, .int .i64 a0_2] 23 (0, 0)) (by (with_reducible repeat (first | refine blk_drewN ?_ _ | refine blk_drew ?_ | refine blk_alloc ?_ _)); exact BK354.out) hb); have n1_ := Aside0.mk (blk_below (g := gb362) (o := .cells #[.int .i64 x363000_3, .int .i64 x363001_3, .int .i64 x363002_3, .int .i64 x363003_3, .bool x363004_3] 26 (0, 0)) (by (with_reducible repeat (first | refine blk_drewN ?_ _ | refine blk_drew ?_ | refine blk_alloc ?_ _)); exact BK362.out) hb); have n2_ := Aside0.mk (below_step (by repeat (first | (with_reducible first | exact HB.out | apply below_alloc | apply pw_below_drewN | apply below_drew1 | refine below_set ?_ GE354.out | refine below_set ?_ GE362.out) | exact HB.out)) hb); clear BK354; clear BK362; clear HB; have BK354 := n0_; have BK362 := n1_; have HB := n2_; clear n0_ n1_ n2_; (try clear hb); (try clear hb2); (try clear hk); (try clear hi); have hcz34_0 : w33.cell? ⟨gb362, 0, none⟩ = some (.int .i64 x363000_3) := (blk_cell BK362.out 0).trans rfl; have hcz34_1 : w33.cell? ⟨gb362, 1, none⟩ = some (.int .i64 x363001_3) := (blk_cell BK362.out 1).trans rfl; have hcz34_2 : w33.cell? ⟨gb362, 2, none⟩ = some (.int .i64 x363002_3) := (blk_cell BK362.out 2).trans rfl; have hcz34_3 : w33.cell? ⟨gb362, 3, none⟩ = some (.int .i64 x363003_3) := (blk_cell BK362.out 3).trans rfl; have hcz34_4 : w33.cell? ⟨gb362, 4, none⟩ = some (.bool x363004_3) := (blk_cell BK362.out 4).trans rfl; have hfz34_0 := blk_frozen BK362.out 0; have hfz34_1 := blk_frozen BK362.out 1; have hfz34_2 := blk_frozen BK362.out 2; have hfz34_3 := blk_frozen BK362.out 3; have hfz34_4 := blk_frozen BK362.out 4))
                            go_ret
                            exact ⟨by first | rfl | (simp [errW_none, errW_some] <;> rfl) | (simp [*, errW_none, errW_some] <;> rfl), by repeat (first | (with_reducible first | exact HB.out | apply below_alloc | apply pw_below_drewN | apply below_drew1 | refine below_set ?_ GE354.out | refine below_set ?_ GE362.out) | exact HB.out)⟩
                          · rw [if_neg c29] at H
                            have c29b0 : decide (x11_3 < t366) = false := decide_eq_false c29
                            clear c29
                            by_cases c35 : x12_3 ≥ 64
                            · rw [if_pos c35] at H
                              have c35b0 : decide (64 ≤ x12_3) = true := decide_eq_true c35
                              clear c35
                              by_cases c36 : t366 > 3
                              · rw [if_pos c36] at H
                                have c36b0 : decide (3 < t366) = true := decide_eq_true c36
                                clear c36
                                obtain rfl := Option.some.inj H
                                have hnb37 := NB354_362.out
                                have hnc37 := NB362_354.out
                                have hcz38_0 : wc.cell? ⟨gb354, 0, none⟩ = some (.int .i64 a0_0) := (blk_cell BK354.out 0).trans rfl
                                have hcz38_1 : wc.cell? ⟨gb354, 1, none⟩ = some (.int .i64 a0_1) := (blk_cell BK354.out 1).trans rfl
                                have hcz38_2 : wc.cell? ⟨gb354, 2, none⟩ = some (.int .i64 a0_2) := (blk_cell BK354.out 2).trans rfl
                                have hfz38_0 := blk_frozen BK354.out 0
                                have hfz38_1 := blk_frozen BK354.out 1
                                have hfz38_2 := blk_frozen BK354.out 2
                                have hcz39_0 : wc.cell? ⟨gb362, 0, none⟩ = some (.int .i64 x363000_3) := (blk_cell BK362.out 0).trans rfl
                                have hcz39_1 : wc.cell? ⟨gb362, 1, none⟩ = some (.int .i64 x363001_3) := (blk_cell BK362.out 1).trans rfl
                                have hcz39_2 : wc.cell? ⟨gb362, 2, none⟩ = some (.int .i64 x363002_3) := (blk_cell BK362.out 2).trans rfl
                                have hcz39_3 : wc.cell? ⟨gb362, 3, none⟩ = some (.int .i64 x363003_3) := (blk_cell BK362.out 3).trans rfl
                                have hcz39_4 : wc.cell? ⟨gb362, 4, none⟩ = some (.bool x363004_3) := (blk_cell BK362.out 4).trans rfl
                                have hfz39_0 := blk_frozen BK362.out 0
                                have hfz39_1 := blk_frozen BK362.out 1
                                have hfz39_2 := blk_frozen BK362.out 2
                                have hfz39_3 := blk_frozen BK362.out 3
                                have hfz39_4 := blk_frozen BK362.out 4
                                go_wp2_with (first | ((with_reducible refine gate_callee (f := 17) rfl ?_); refine goesL_ (some 52) rfl rfl Tryd.func17 (by kernel_rfl) rfl #[.agg #[.int .i64 a0_0, .int .i64 a0_1, .int .i64 a0_2], .agg #[.int .i64 x363000_3, .int .i64 x363001_3, .int .i64 x363002_3, .int .i64 x363003_3, .bool x363004_3], .int .i64 a1] rfl (by (try simp only [List.map_toArray, List.map_cons, List.map_nil]); first | done | rfl | (simp only [List.length_drop, List.length_take]; rfl)) ?_; (with_reducible refine (rto_Sample.calls a0_0 a0_1 a0_2 x363000_3 x363001_3 x363002_3 x363003_3 x363004_3 a1 t365 t366 t367 t368 t369 _ ?side1 A27.out).mono ?_); (case side1 => exact Tied.below HG.out (by repeat (first | (with_reducible first | exact HB.out | apply below_alloc | apply pw_below_drewN | apply below_drew1 | refine below_set ?_ GE354.out | refine below_set ?_ GE362.out) | exact HB.out))); rintro e w40 ⟨rfl, hb⟩; refine ⟨_, rfl, ?_⟩; have n0_ := Aside0.mk (blk_below (g := gb354) (o := .cells #[.int .i64 a0_0, .int .i64 a0_1, .int .i64 a0_2] 23 (0, 0)) (by (with_reducible repeat (first | refine blk_drewN ?_ _ | refine blk_drew ?_ | refine blk_alloc ?_ _)); exact BK354.out) hb); have n1_ := Aside0.mk (blk_below (g := gb362) (o := .cells #[.int .i64 x363000_3, .int .i64 x363001_3, .int .i64 x363002_3, .int .i64 x363003_3, .bool x363004_3] 26 (0, 0)) (by (with_reducible repeat (first | refine blk_drewN ?_ _ | refine blk_drew ?_ | refine blk_alloc ?_ _)); exact BK362.out) hb); have n2_ := Aside0.mk (below_step (by repeat (first | (with_reducible first | exact HB.out | apply below_alloc | apply pw_below_drewN | apply below_drew1 | refine below_set ?_ GE354.out | refine below_set ?_ GE362.out) | exact HB.out)) hb); clear BK354; clear BK362; clear HB; have BK354 := n0_; have BK362 := n1_; have HB := n2_; clear n0_ n1_ n2_; (try clear hb); (try clear hb2); (try clear hk); (try clear hi); have hcz41_0 : w40.cell? ⟨gb362, 0, none⟩ = some (.int .i64 x363000_3) := (blk_cell BK362.out 0).trans rfl; have hcz41_1 : w40.cell? ⟨gb362, 1, none⟩ = some (.int .i64 x363001_3) := (blk_cell BK362.out 1).trans rfl; have hcz41_2 : w40.cell? ⟨gb362, 2, none⟩ = some (.int .i64 x363002_3) := (blk_cell BK362.out 2).trans rfl; have hcz41_3 : w40.cell? ⟨gb362, 3, none⟩ = some (.int .i64 x363003_3) := (blk_cell BK362.out 3).trans rfl; have hcz41_4 : w40.cell? ⟨gb362, 4, none⟩ = some (.bool x363004_3) := (blk_cell BK362.out 4).trans rfl; have hfz41_0 := blk_frozen BK362.out 0; have hfz41_1 := blk_frozen BK362.out 1; have hfz41_2 := blk_frozen BK362.out 2; have hfz41_3 := blk_frozen BK362.out 3; have hfz41_4 := blk_frozen BK362.out 4))
                                go_ret
                                exact ⟨by first | rfl | (simp [errW_none, errW_some] <;> rfl) | (simp [*, errW_none, errW_some] <;> rfl), by repeat (first | (with_reducible first | exact HB.out | apply below_alloc | apply pw_below_drewN | apply below_drew1 | refine below_set ?_ GE354.out | refine below_set ?_ GE362.out) | exact HB.out)⟩
                              · rw [if_neg c36] at H
                                have c36b0 : decide (3 < t366) = false := decide_eq_false c36
                                clear c36
                                have H' := Aside0.mk H
                                clear H
                                have hnb42 := NB354_362.out
                                have hnc42 := NB362_354.out
                                have hcz43_0 : wc.cell? ⟨gb354, 0, none⟩ = some (.int .i64 a0_0) := (blk_cell BK354.out 0).trans rfl
                                have hcz43_1 : wc.cell? ⟨gb354, 1, none⟩ = some (.int .i64 a0_1) := (blk_cell BK354.out 1).trans rfl
                                have hcz43_2 : wc.cell? ⟨gb354, 2, none⟩ = some (.int .i64 a0_2) := (blk_cell BK354.out 2).trans rfl
                                have hfz43_0 := blk_frozen BK354.out 0
                                have hfz43_1 := blk_frozen BK354.out 1
                                have hfz43_2 := blk_frozen BK354.out 2
                                have hcz44_0 : wc.cell? ⟨gb362, 0, none⟩ = some (.int .i64 x363000_3) := (blk_cell BK362.out 0).trans rfl
                                have hcz44_1 : wc.cell? ⟨gb362, 1, none⟩ = some (.int .i64 x363001_3) := (blk_cell BK362.out 1).trans rfl
                                have hcz44_2 : wc.cell? ⟨gb362, 2, none⟩ = some (.int .i64 x363002_3) := (blk_cell BK362.out 2).trans rfl
                                have hcz44_3 : wc.cell? ⟨gb362, 3, none⟩ = some (.int .i64 x363003_3) := (blk_cell BK362.out 3).trans rfl
                                have hcz44_4 : wc.cell? ⟨gb362, 4, none⟩ = some (.bool x363004_3) := (blk_cell BK362.out 4).trans rfl
                                have hfz44_0 := blk_frozen BK362.out 0
                                have hfz44_1 := blk_frozen BK362.out 1
                                have hfz44_2 := blk_frozen BK362.out 2
                                have hfz44_3 := blk_frozen BK362.out 3
                                have hfz44_4 := blk_frozen BK362.out 4
                                go_wp2_with (first | ((with_reducible refine gate_callee (f := 17) rfl ?_); refine goesL_ (some 52) rfl rfl Tryd.func17 (by kernel_rfl) rfl #[.agg #[.int .i64 a0_0, .int .i64 a0_1, .int .i64 a0_2], .agg #[.int .i64 x363000_3, .int .i64 x363001_3, .int .i64 x363002_3, .int .i64 x363003_3, .bool x363004_3], .int .i64 a1] rfl (by (try simp only [List.map_toArray, List.map_cons, List.map_nil]); first | done | rfl | (simp only [List.length_drop, List.length_take]; rfl)) ?_; (with_reducible refine (rto_Sample.calls a0_0 a0_1 a0_2 x363000_3 x363001_3 x363002_3 x363003_3 x363004_3 a1 t365 t366 t367 t368 t369 _ ?side1 A27.out).mono ?_); (case side1 => exact Tied.below HG.out (by repeat (first | (with_reducible first | exact HB.out | apply below_alloc | apply pw_below_drewN | apply below_drew1 | refine below_set ?_ GE354.out | refine below_set ?_ GE362.out) | exact HB.out))); rintro e w45 ⟨rfl, hb⟩; refine ⟨_, rfl, ?_⟩; have n0_ := Aside0.mk (blk_below (g := gb354) (o := .cells #[.int .i64 a0_0, .int .i64 a0_1, .int .i64 a0_2] 23 (0, 0)) (by (with_reducible repeat (first | refine blk_drewN ?_ _ | refine blk_drew ?_ | refine blk_alloc ?_ _)); exact BK354.out) hb); have n1_ := Aside0.mk (blk_below (g := gb362) (o := .cells #[.int .i64 x363000_3, .int .i64 x363001_3, .int .i64 x363002_3, .int .i64 x363003_3, .bool x363004_3] 26 (0, 0)) (by (with_reducible repeat (first | refine blk_drewN ?_ _ | refine blk_drew ?_ | refine blk_alloc ?_ _)); exact BK362.out) hb); have n2_ := Aside0.mk (below_step (by repeat (first | (with_reducible first | exact HB.out | apply below_alloc | apply pw_below_drewN | apply below_drew1 | refine below_set ?_ GE354.out | refine below_set ?_ GE362.out) | exact HB.out)) hb); clear BK354; clear BK362; clear HB; have BK354 := n0_; have BK362 := n1_; have HB := n2_; clear n0_ n1_ n2_; (try clear hb); (try clear hb2); (try clear hk); (try clear hi); have hcz46_0 : w45.cell? ⟨gb362, 0, none⟩ = some (.int .i64 x363000_3) := (blk_cell BK362.out 0).trans rfl; have hcz46_1 : w45.cell? ⟨gb362, 1, none⟩ = some (.int .i64 x363001_3) := (blk_cell BK362.out 1).trans rfl; have hcz46_2 : w45.cell? ⟨gb362, 2, none⟩ = some (.int .i64 x363002_3) := (blk_cell BK362.out 2).trans rfl; have hcz46_3 : w45.cell? ⟨gb362, 3, none⟩ = some (.int .i64 x363003_3) := (blk_cell BK362.out 3).trans rfl; have hcz46_4 : w45.cell? ⟨gb362, 4, none⟩ = some (.bool x363004_3) := (blk_cell BK362.out 4).trans rfl; have hfz46_0 := blk_frozen BK362.out 0; have hfz46_1 := blk_frozen BK362.out 1; have hfz46_2 := blk_frozen BK362.out 2; have hfz46_3 := blk_frozen BK362.out 3; have hfz46_4 := blk_frozen BK362.out 4))
                                go_roundg kj23
                                case measure => have := HJ6.out; have := HJ19.out; have := HK3.out; have := HJ23.out; omega
                                case rel => exact ⟨(t366), (wrap64 (x12_3 + 1)), (t365), (t366), (t367), (t368), (t369), (by first | rfl | (simp; done) | (simp [*]; done)), (by first | rfl | (simp; done) | (simp [*]; done)), H', ⟨by have := HJ6.out; have := HJ19.out; have := HK3.out; have := HJ23.out; omega⟩, ⟨by (with_reducible repeat (first | refine blk_drewN ?_ _ | refine blk_drew ?_ | refine blk_alloc ?_ _)); refine blk_far ?_ NB354_362.out _; (with_reducible repeat (first | refine blk_drewN ?_ _ | refine blk_drew ?_ | refine blk_alloc ?_ _)); refine blk_far ?_ NB354_362.out _; (with_reducible repeat (first | refine blk_drewN ?_ _ | refine blk_drew ?_ | refine blk_alloc ?_ _)); refine blk_far ?_ NB354_362.out _; (with_reducible repeat (first | refine blk_drewN ?_ _ | refine blk_drew ?_ | refine blk_alloc ?_ _)); refine blk_far ?_ NB354_362.out _; (with_reducible repeat (first | refine blk_drewN ?_ _ | refine blk_drew ?_ | refine blk_alloc ?_ _)); refine blk_far ?_ NB354_362.out _; (with_reducible repeat (first | refine blk_drewN ?_ _ | refine blk_drew ?_ | refine blk_alloc ?_ _)); exact BK354.out⟩, ⟨by (with_reducible repeat (first | refine blk_drewN ?_ _ | refine blk_drew ?_ | refine blk_alloc ?_ _)); refine blk_put (cs := #[.int .i64 t365, .int .i64 t366, .int .i64 t367, .int .i64 t368, .bool x363004_3]) ?_ 4 _ rfl; (with_reducible repeat (first | refine blk_drewN ?_ _ | refine blk_drew ?_ | refine blk_alloc ?_ _)); refine blk_put (cs := #[.int .i64 t365, .int .i64 t366, .int .i64 t367, .int .i64 x363003_3, .bool x363004_3]) ?_ 3 _ rfl; (with_reducible repeat (first | refine blk_drewN ?_ _ | refine blk_drew ?_ | refine blk_alloc ?_ _)); refine blk_put (cs := #[.int .i64 t365, .int .i64 t366, .int .i64 x363002_3, .int .i64 x363003_3, .bool x363004_3]) ?_ 2 _ rfl; (with_reducible repeat (first | refine blk_drewN ?_ _ | refine blk_drew ?_ | refine blk_alloc ?_ _)); refine blk_put (cs := #[.int .i64 t365, .int .i64 x363001_3, .int .i64 x363002_3, .int .i64 x363003_3, .bool x363004_3]) ?_ 1 _ rfl; (with_reducible repeat (first | refine blk_drewN ?_ _ | refine blk_drew ?_ | refine blk_alloc ?_ _)); refine blk_put (cs := #[.int .i64 x363000_3, .int .i64 x363001_3, .int .i64 x363002_3, .int .i64 x363003_3, .bool x363004_3]) ?_ 0 _ rfl; (with_reducible repeat (first | refine blk_drewN ?_ _ | refine blk_drew ?_ | refine blk_alloc ?_ _)); exact BK362.out⟩, ⟨by repeat (first | (with_reducible first | exact HB.out | apply below_alloc | apply pw_below_drewN | apply below_drew1 | refine below_set ?_ GE354.out | refine below_set ?_ GE362.out) | exact HB.out)⟩⟩
                            · rw [if_neg c35] at H
                              have c35b0 : decide (64 ≤ x12_3) = false := decide_eq_false c35
                              clear c35
                              have H' := Aside0.mk H
                              clear H
                              have hnb47 := NB354_362.out
                              have hnc47 := NB362_354.out
                              have hcz48_0 : wc.cell? ⟨gb354, 0, none⟩ = some (.int .i64 a0_0) := (blk_cell BK354.out 0).trans rfl
                              have hcz48_1 : wc.cell? ⟨gb354, 1, none⟩ = some (.int .i64 a0_1) := (blk_cell BK354.out 1).trans rfl
                              have hcz48_2 : wc.cell? ⟨gb354, 2, none⟩ = some (.int .i64 a0_2) := (blk_cell BK354.out 2).trans rfl
                              have hfz48_0 := blk_frozen BK354.out 0
                              have hfz48_1 := blk_frozen BK354.out 1
                              have hfz48_2 := blk_frozen BK354.out 2
                              have hcz49_0 : wc.cell? ⟨gb362, 0, none⟩ = some (.int .i64 x363000_3) := (blk_cell BK362.out 0).trans rfl
                              have hcz49_1 : wc.cell? ⟨gb362, 1, none⟩ = some (.int .i64 x363001_3) := (blk_cell BK362.out 1).trans rfl
                              have hcz49_2 : wc.cell? ⟨gb362, 2, none⟩ = some (.int .i64 x363002_3) := (blk_cell BK362.out 2).trans rfl
                              have hcz49_3 : wc.cell? ⟨gb362, 3, none⟩ = some (.int .i64 x363003_3) := (blk_cell BK362.out 3).trans rfl
                              have hcz49_4 : wc.cell? ⟨gb362, 4, none⟩ = some (.bool x363004_3) := (blk_cell BK362.out 4).trans rfl
                              have hfz49_0 := blk_frozen BK362.out 0
                              have hfz49_1 := blk_frozen BK362.out 1
                              have hfz49_2 := blk_frozen BK362.out 2
                              have hfz49_3 := blk_frozen BK362.out 3
                              have hfz49_4 := blk_frozen BK362.out 4
                              go_wp2_with (first | ((with_reducible refine gate_callee (f := 17) rfl ?_); refine goesL_ (some 52) rfl rfl Tryd.func17 (by kernel_rfl) rfl #[.agg #[.int .i64 a0_0, .int .i64 a0_1, .int .i64 a0_2], .agg #[.int .i64 x363000_3, .int .i64 x363001_3, .int .i64 x363002_3, .int .i64 x363003_3, .bool x363004_3], .int .i64 a1] rfl (by (try simp only [List.map_toArray, List.map_cons, List.map_nil]); first | done | rfl | (simp only [List.length_drop, List.length_take]; rfl)) ?_; (with_reducible refine (rto_Sample.calls a0_0 a0_1 a0_2 x363000_3 x363001_3 x363002_3 x363003_3 x363004_3 a1 t365 t366 t367 t368 t369 _ ?side1 A27.out).mono ?_); (case side1 => exact Tied.below HG.out (by repeat (first | (with_reducible first | exact HB.out | apply below_alloc | apply pw_below_drewN | apply below_drew1 | refine below_set ?_ GE354.out | refine below_set ?_ GE362.out) | exact HB.out))); rintro e w50 ⟨rfl, hb⟩; refine ⟨_, rfl, ?_⟩; have n0_ := Aside0.mk (blk_below (g := gb354) (o := .cells #[.int .i64 a0_0, .int .i64 a0_1, .int .i64 a0_2] 23 (0, 0)) (by (with_reducible repeat (first | refine blk_drewN ?_ _ | refine blk_drew ?_ | refine blk_alloc ?_ _)); exact BK354.out) hb); have n1_ := Aside0.mk (blk_below (g := gb362) (o := .cells #[.int .i64 x363000_3, .int .i64 x363001_3, .int .i64 x363002_3, .int .i64 x363003_3, .bool x363004_3] 26 (0, 0)) (by (with_reducible repeat (first | refine blk_drewN ?_ _ | refine blk_drew ?_ | refine blk_alloc ?_ _)); exact BK362.out) hb); have n2_ := Aside0.mk (below_step (by repeat (first | (with_reducible first | exact HB.out | apply below_alloc | apply pw_below_drewN | apply below_drew1 | refine below_set ?_ GE354.out | refine below_set ?_ GE362.out) | exact HB.out)) hb); clear BK354; clear BK362; clear HB; have BK354 := n0_; have BK362 := n1_; have HB := n2_; clear n0_ n1_ n2_; (try clear hb); (try clear hb2); (try clear hk); (try clear hi); have hcz51_0 : w50.cell? ⟨gb362, 0, none⟩ = some (.int .i64 x363000_3) := (blk_cell BK362.out 0).trans rfl; have hcz51_1 : w50.cell? ⟨gb362, 1, none⟩ = some (.int .i64 x363001_3) := (blk_cell BK362.out 1).trans rfl; have hcz51_2 : w50.cell? ⟨gb362, 2, none⟩ = some (.int .i64 x363002_3) := (blk_cell BK362.out 2).trans rfl; have hcz51_3 : w50.cell? ⟨gb362, 3, none⟩ = some (.int .i64 x363003_3) := (blk_cell BK362.out 3).trans rfl; have hcz51_4 : w50.cell? ⟨gb362, 4, none⟩ = some (.bool x363004_3) := (blk_cell BK362.out 4).trans rfl; have hfz51_0 := blk_frozen BK362.out 0; have hfz51_1 := blk_frozen BK362.out 1; have hfz51_2 := blk_frozen BK362.out 2; have hfz51_3 := blk_frozen BK362.out 3; have hfz51_4 := blk_frozen BK362.out 4))
                              go_roundg kj23
                              case measure => have := HJ6.out; have := HJ19.out; have := HK3.out; have := HJ23.out; omega
                              case rel => exact ⟨(t366), (wrap64 (x12_3 + 1)), (t365), (t366), (t367), (t368), (t369), (by first | rfl | (simp; done) | (simp [*]; done)), (by first | rfl | (simp; done) | (simp [*]; done)), H', ⟨by have := HJ6.out; have := HJ19.out; have := HK3.out; have := HJ23.out; omega⟩, ⟨by (with_reducible repeat (first | refine blk_drewN ?_ _ | refine blk_drew ?_ | refine blk_alloc ?_ _)); refine blk_far ?_ NB354_362.out _; (with_reducible repeat (first | refine blk_drewN ?_ _ | refine blk_drew ?_ | refine blk_alloc ?_ _)); refine blk_far ?_ NB354_362.out _; (with_reducible repeat (first | refine blk_drewN ?_ _ | refine blk_drew ?_ | refine blk_alloc ?_ _)); refine blk_far ?_ NB354_362.out _; (with_reducible repeat (first | refine blk_drewN ?_ _ | refine blk_drew ?_ | refine blk_alloc ?_ _)); refine blk_far ?_ NB354_362.out _; (with_reducible repeat (first | refine blk_drewN ?_ _ | refine blk_drew ?_ | refine blk_alloc ?_ _)); refine blk_far ?_ NB354_362.out _; (with_reducible repeat (first | refine blk_drewN ?_ _ | refine blk_drew ?_ | refine blk_alloc ?_ _)); exact BK354.out⟩, ⟨by (with_reducible repeat (first | refine blk_drewN ?_ _ | refine blk_drew ?_ | refine blk_alloc ?_ _)); refine blk_put (cs := #[.int .i64 t365, .int .i64 t366, .int .i64 t367, .int .i64 t368, .bool x363004_3]) ?_ 4 _ rfl; (with_reducible repeat (first | refine blk_drewN ?_ _ | refine blk_drew ?_ | refine blk_alloc ?_ _)); refine blk_put (cs := #[.int .i64 t365, .int .i64 t366, .int .i64 t367, .int .i64 x363003_3, .bool x363004_3]) ?_ 3 _ rfl; (with_reducible repeat (first | refine blk_drewN ?_ _ | refine blk_drew ?_ | refine blk_alloc ?_ _)); refine blk_put (cs := #[.int .i64 t365, .int .i64 t366, .int .i64 x363002_3, .int .i64 x363003_3, .bool x363004_3]) ?_ 2 _ rfl; (with_reducible repeat (first | refine blk_drewN ?_ _ | refine blk_drew ?_ | refine blk_alloc ?_ _)); refine blk_put (cs := #[.int .i64 t365, .int .i64 x363001_3, .int .i64 x363002_3, .int .i64 x363003_3, .bool x363004_3]) ?_ 1 _ rfl; (with_reducible repeat (first | refine blk_drewN ?_ _ | refine blk_drew ?_ | refine blk_alloc ?_ _)); refine blk_put (cs := #[.int .i64 x363000_3, .int .i64 x363001_3, .int .i64 x363002_3, .int .i64 x363003_3, .bool x363004_3]) ?_ 0 _ rfl; (with_reducible repeat (first | refine blk_drewN ?_ _ | refine blk_drew ?_ | refine blk_alloc ?_ _)); exact BK362.out⟩, ⟨by repeat (first | (with_reducible first | exact HB.out | apply below_alloc | apply pw_below_drewN | apply below_drew1 | refine below_set ?_ GE354.out | refine below_set ?_ GE362.out) | exact HB.out)⟩⟩
                        · rw [if_neg c28] at H
                          have c28b0 : (t365 == (wrap64 (8 * a1))) = false := beq_eq_false_iff_ne.mpr c28
                          have c28b1 : (t365 != (wrap64 (8 * a1))) = true := bne_iff_ne.mpr c28
                          obtain rfl := Option.some.inj H
                          have hnb52 := NB354_362.out
                          have hnc52 := NB362_354.out
                          have hcz53_0 : wc.cell? ⟨gb354, 0, none⟩ = some (.int .i64 a0_0) := (blk_cell BK354.out 0).trans rfl
                          have hcz53_1 : wc.cell? ⟨gb354, 1, none⟩ = some (.int .i64 a0_1) := (blk_cell BK354.out 1).trans rfl
                          have hcz53_2 : wc.cell? ⟨gb354, 2, none⟩ = some (.int .i64 a0_2) := (blk_cell BK354.out 2).trans rfl
                          have hfz53_0 := blk_frozen BK354.out 0
                          have hfz53_1 := blk_frozen BK354.out 1
                          have hfz53_2 := blk_frozen BK354.out 2
                          have hcz54_0 : wc.cell? ⟨gb362, 0, none⟩ = some (.int .i64 x363000_3) := (blk_cell BK362.out 0).trans rfl
                          have hcz54_1 : wc.cell? ⟨gb362, 1, none⟩ = some (.int .i64 x363001_3) := (blk_cell BK362.out 1).trans rfl
                          have hcz54_2 : wc.cell? ⟨gb362, 2, none⟩ = some (.int .i64 x363002_3) := (blk_cell BK362.out 2).trans rfl
                          have hcz54_3 : wc.cell? ⟨gb362, 3, none⟩ = some (.int .i64 x363003_3) := (blk_cell BK362.out 3).trans rfl
                          have hcz54_4 : wc.cell? ⟨gb362, 4, none⟩ = some (.bool x363004_3) := (blk_cell BK362.out 4).trans rfl
                          have hfz54_0 := blk_frozen BK362.out 0
                          have hfz54_1 := blk_frozen BK362.out 1
                          have hfz54_2 := blk_frozen BK362.out 2
                          have hfz54_3 := blk_frozen BK362.out 3
                          have hfz54_4 := blk_frozen BK362.out 4
                          go_wp2_with (first | ((with_reducible refine gate_callee (f := 17) rfl ?_); refine goesL_ (some 52) rfl rfl Tryd.func17 (by kernel_rfl) rfl #[.agg #[.int .i64 a0_0, .int .i64 a0_1, .int .i64 a0_2], .agg #[.int .i64 x363000_3, .int .i64 x363001_3, .int .i64 x363002_3, .int .i64 x363003_3, .bool x363004_3], .int .i64 a1] rfl (by (try simp only [List.map_toArray, List.map_cons, List.map_nil]); first | done | rfl | (simp only [List.length_drop, List.length_take]; rfl)) ?_; (with_reducible refine (rto_Sample.calls a0_0 a0_1 a0_2 x363000_3 x363001_3 x363002_3 x363003_3 x363004_3 a1 t365 t366 t367 t368 t369 _ ?side1 A27.out).mono ?_); (case side1 => exact Tied.below HG.out (by repeat (first | (with_reducible first | exact HB.out | apply below_alloc | apply pw_below_drewN | apply below_drew1 | refine below_set ?_ GE354.out | refine below_set ?_ GE362.out) | exact HB.out))); rintro e w55 ⟨rfl, hb⟩; refine ⟨_, rfl, ?_⟩; have n0_ := Aside0.mk (blk_below (g := gb354) (o := .cells #[.int .i64 a0_0, .int .i64 a0_1, .int .i64 a0_2] 23 (0, 0)) (by (with_reducible repeat (first | refine blk_drewN ?_ _ | refine blk_drew ?_ | refine blk_alloc ?_ _)); exact BK354.out) hb); have n1_ := Aside0.mk (blk_below (g := gb362) (o := .cells #[.int .i64 x363000_3, .int .i64 x363001_3, .int .i64 x363002_3, .int .i64 x363003_3, .bool x363004_3] 26 (0, 0)) (by (with_reducible repeat (first | refine blk_drewN ?_ _ | refine blk_drew ?_ | refine blk_alloc ?_ _)); exact BK362.out) hb); have n2_ := Aside0.mk (below_step (by repeat (first | (with_reducible first | exact HB.out | apply below_alloc | apply pw_below_drewN | apply below_drew1 | refine below_set ?_ GE354.out | refine below_set ?_ GE362.out) | exact HB.out)) hb); clear BK354; clear BK362; clear HB; have BK354 := n0_; have BK362 := n1_; have HB := n2_; clear n0_ n1_ n2_; (try clear hb); (try clear hb2); (try clear hk); (try clear hi); have hcz56_0 : w55.cell? ⟨gb362, 0, none⟩ = some (.int .i64 x363000_3) := (blk_cell BK362.out 0).trans rfl; have hcz56_1 : w55.cell? ⟨gb362, 1, none⟩ = some (.int .i64 x363001_3) := (blk_cell BK362.out 1).trans rfl; have hcz56_2 : w55.cell? ⟨gb362, 2, none⟩ = some (.int .i64 x363002_3) := (blk_cell BK362.out 2).trans rfl; have hcz56_3 : w55.cell? ⟨gb362, 3, none⟩ = some (.int .i64 x363003_3) := (blk_cell BK362.out 3).trans rfl; have hcz56_4 : w55.cell? ⟨gb362, 4, none⟩ = some (.bool x363004_3) := (blk_cell BK362.out 4).trans rfl; have hfz56_0 := blk_frozen BK362.out 0; have hfz56_1 := blk_frozen BK362.out 1; have hfz56_2 := blk_frozen BK362.out 2; have hfz56_3 := blk_frozen BK362.out 3; have hfz56_4 := blk_frozen BK362.out 4))
                          go_ret
                          exact ⟨by first | rfl | (simp [errW_none, errW_some] <;> rfl) | (simp [*, errW_none, errW_some] <;> rfl), by repeat (first | (with_reducible first | exact HB.out | apply below_alloc | apply pw_below_drewN | apply below_drew1 | refine below_set ?_ GE354.out | refine below_set ?_ GE362.out) | exact HB.out)⟩
                      · replace c26 := Bool.eq_false_iff.mpr c26
                        subst c26
                        have H1 : (some true) = some r := by rw [if_neg (show ¬ (false = true) by decide)] at H; exact H
                        clear H
                        have H := H1
                        clear H1
                        obtain rfl := Option.some.inj H
                        go_wp2
                        go_ret
                        exact ⟨by first | rfl | (simp [errW_none, errW_some] <;> rfl) | (simp [*, errW_none, errW_some] <;> rfl), by repeat (first | (with_reducible first | exact HB.out | apply below_alloc | apply pw_below_drewN | apply below_drew1 | refine below_set ?_ GE354.out | refine below_set ?_ GE362.out) | exact HB.out)⟩

end Go.Proofs.YtccddkkijhedhaaDoor.PA
