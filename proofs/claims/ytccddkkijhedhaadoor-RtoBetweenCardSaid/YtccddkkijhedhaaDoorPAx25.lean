-- Printed by a program of this session over the kit's print (some functions are told by hand). Not trusted: Lean checks it.
import Derived.Test.YtccddkkijhedhaaDoorPAx0
import Derived.Test.YtccddkkijhedhaaDoorPAx3
import Derived.Test.YtccddkkijhedhaaDoorPAx5
import Derived.Test.YtccddkkijhedhaaDoorPAx8
import Derived.Test.YtccddkkijhedhaaDoorPAx9
import Derived.Test.YtccddkkijhedhaaDoorPAx21
namespace Go.Proofs.YtccddkkijhedhaaDoor.PA
open Go.RowKit Go.Proofs.YtccddkkijhedhaaDoor Go.Proofs.YtccddkkijhedhaaDoorW.PrintWords Go.Proofs.YtccddkkijhedhaaDoorW.PrintLast Go.Proofs.YtccddkkijhedhaaDoorW.PrintMore
attribute [local go_sem] max2_int min2_int max_two min_two max_three min_three max_four min_four   -- for this text's walks alone
set_option linter.unusedVariables false
set_option linter.unusedSimpArgs false

/-! ### annexlaw17_RtoBetween: function 10 -/
mutual
def annexlaw17_RtoBetween.j0 : Nat → Int → Int → List Int → Bool → Bool → Int → Int → Int → Int → Int → Int → Int → Bool → Option (Bool)
  | 0, _, _, _, _, _, _, _, _, _, _, _, _, _ => none
  | k + 1, x1, x2, x3, x12, x31, x332000, x332001, x332002, x340000, x340001, x340002, x340003, x340004 => if x31 = true then (some false) else (if x12 = true then (if x1 < 1 then (annexlaw17_RtoBetween.j1 k x1 x2 x3 true x332000 x332001 x332002 x340000 x340001 x340002 x340003 x340004) else (if x2 < x1 then (annexlaw17_RtoBetween.j1 k x1 x2 x3 true x332000 x332001 x332002 x340000 x340001 x340002 x340003 x340004) else (annexlaw17_RtoBetween.j1 k x1 x2 x3 (decide (x2 > 1048576)) x332000 x332001 x332002 x340000 x340001 x340002 x340003 x340004))) else (annexlaw17_RtoBetween.j1 k x1 x2 x3 true x332000 x332001 x332002 x340000 x340001 x340002 x340003 x340004))
def annexlaw17_RtoBetween.j1 : Nat → Int → Int → List Int → Bool → Int → Int → Int → Int → Int → Int → Int → Bool → Option (Bool)
  | 0, _, _, _, _, _, _, _, _, _, _, _, _ => none
  | k + 1, x1, x2, x3, x46, x332000, x332001, x332002, x340000, x340001, x340002, x340003, x340004 => if x46 = true then (some true) else (annexlaw17_RtoBetween.l0 k x1 x2 x3 false 0 x332000 x332001 x332002 x340000 x340001 x340002 x340003 x340004)
def annexlaw17_RtoBetween.l0 : Nat → Int → Int → List Int → Bool → Int → Int → Int → Int → Int → Int → Int → Int → Bool → Option (Bool)
  | 0, _, _, _, _, _, _, _, _, _, _, _, _, _ => none
  | k + 1, x1, x2, x3, x13, x14, x332000, x332001, x332002, x340000, x340001, x340002, x340003, x340004 => if x14 < (x3.length : Int) then (if 0 ≤ x14 then (if (rd x3 x14) < 0 then ((rto_Expire.f x332000 x332001 x332002 x340000 x340001 x340002 x340003 x340004).bind fun bt343 => (annexlaw17_RtoBetween.l0 k x1 x2 x3 x13 (wrap64 (x14 + 1)) x332000 x332001 x332002 bt343.1 bt343.2.1 bt343.2.2.1 bt343.2.2.2.1 bt343.2.2.2.2)) else (if (wrap64 ((wrap64 (x2 - x1)) + 1)) = 0 then (none) else ((rto_Sample.f x332000 x332001 x332002 x340000 x340001 x340002 x340003 x340004 (wrap64 (x1 + (Int.tmod (rd x3 x14) (wrap64 ((wrap64 (x2 - x1)) + 1)))))).bind fun bt349 => (if (wrap64 (Int.tdiv bt349.1 8)) < x1 then (some false) else (if (wrap64 (Int.tdiv bt349.1 8)) > x2 then (some false) else (if bt349.2.1 > (wrap64 (4 * x2)) then (some false) else (if bt349.2.1 < 0 then (some false) else (annexlaw17_RtoBetween.l0 k x1 x2 x3 true (wrap64 (x14 + 1)) x332000 x332001 x332002 bt349.1 bt349.2.1 bt349.2.2.1 bt349.2.2.2.1 bt349.2.2.2.2)))))))) else (none)) else (some (x340004 == x13))
end
def annexlaw17_RtoBetween.f (k : Nat) (a0_0 : Int) (a0_1 : Int) (a0_2 : Int) (a1 : Int) (a2 : Int) (l3 : List Int) : Option (Bool) := (annexlaw17_known.f).bind fun t332 => ((rto_Start.f a0_0 a0_1 a0_2).bind fun bt333 => ((annexlaw17_right.f a0_0 a0_1 a0_2).bind fun t340 => (if t332 = true then ((annexlaw17_num.f bt333.2.2.2.2.2).bind fun t341 => (annexlaw17_RtoBetween.j0 k a1 a2 l3 t340 ((t341 == 0) != t340) a0_0 a0_1 a0_2 bt333.1 bt333.2.1 bt333.2.2.1 bt333.2.2.2.1 bt333.2.2.2.2.1)) else (annexlaw17_RtoBetween.j0 k a1 a2 l3 t340 true a0_0 a0_1 a0_2 bt333.1 bt333.2.1 bt333.2.2.1 bt333.2.2.2.1 bt333.2.2.2.2.1))))
theorem annexlaw17_RtoBetween.mono_l : ∀ k, (∀ y0 y1 y2 y3 y4 y5 y6 y7 y8 y9 y10 y11 y12, LeO (annexlaw17_RtoBetween.j0 k y0 y1 y2 y3 y4 y5 y6 y7 y8 y9 y10 y11 y12) (annexlaw17_RtoBetween.j0 (k + 1) y0 y1 y2 y3 y4 y5 y6 y7 y8 y9 y10 y11 y12)) ∧ (∀ y0 y1 y2 y3 y4 y5 y6 y7 y8 y9 y10 y11, LeO (annexlaw17_RtoBetween.j1 k y0 y1 y2 y3 y4 y5 y6 y7 y8 y9 y10 y11) (annexlaw17_RtoBetween.j1 (k + 1) y0 y1 y2 y3 y4 y5 y6 y7 y8 y9 y10 y11)) ∧ (∀ y0 y1 y2 y3 y4 y5 y6 y7 y8 y9 y10 y11 y12, LeO (annexlaw17_RtoBetween.l0 k y0 y1 y2 y3 y4 y5 y6 y7 y8 y9 y10 y11 y12) (annexlaw17_RtoBetween.l0 (k + 1) y0 y1 y2 y3 y4 y5 y6 y7 y8 y9 y10 y11 y12))
  | 0 => ⟨fun _ _ _ _ _ _ _ _ _ _ _ _ _ r h => by simp [annexlaw17_RtoBetween.j0] at h, fun _ _ _ _ _ _ _ _ _ _ _ _ r h => by simp [annexlaw17_RtoBetween.j1] at h, fun _ _ _ _ _ _ _ _ _ _ _ _ _ r h => by simp [annexlaw17_RtoBetween.l0] at h⟩
  | k + 1 => by
    obtain ⟨ih0, ih1, ih2⟩ := annexlaw17_RtoBetween.mono_l k
    refine ⟨?_, ?_, ?_⟩
    · intro y0 y1 y2 y3 y4 y5 y6 y7 y8 y9 y10 y11 y12
      unfold annexlaw17_RtoBetween.j0
      repeat' first
      | (with_reducible exact ih0 _ _ _ _ _ _ _ _ _ _ _ _ _)
      | (with_reducible exact ih1 _ _ _ _ _ _ _ _ _ _ _ _)
      | (with_reducible exact ih2 _ _ _ _ _ _ _ _ _ _ _ _ _)
      | (with_reducible exact LeO.refl _)
      | (with_reducible exact LeO.none _)
      | (with_reducible refine LeO.ite ?_ ?_)
      | (with_reducible refine LeO.bind ?_ (fun _ => ?_))
      | exact ih0 _ _ _ _ _ _ _ _ _ _ _ _ _
      | exact ih1 _ _ _ _ _ _ _ _ _ _ _ _
      | exact ih2 _ _ _ _ _ _ _ _ _ _ _ _ _
      | exact LeO.none _
      | refine LeO.ite ?_ ?_
      | refine LeO.bind ?_ (fun _ => ?_)
    · intro y0 y1 y2 y3 y4 y5 y6 y7 y8 y9 y10 y11
      unfold annexlaw17_RtoBetween.j1
      repeat' first
      | (with_reducible exact ih0 _ _ _ _ _ _ _ _ _ _ _ _ _)
      | (with_reducible exact ih1 _ _ _ _ _ _ _ _ _ _ _ _)
      | (with_reducible exact ih2 _ _ _ _ _ _ _ _ _ _ _ _ _)
      | (with_reducible exact LeO.refl _)
      | (with_reducible exact LeO.none _)
      | (with_reducible refine LeO.ite ?_ ?_)
      | (with_reducible refine LeO.bind ?_ (fun _ => ?_))
      | exact ih0 _ _ _ _ _ _ _ _ _ _ _ _ _
      | exact ih1 _ _ _ _ _ _ _ _ _ _ _ _
      | exact ih2 _ _ _ _ _ _ _ _ _ _ _ _ _
      | exact LeO.none _
      | refine LeO.ite ?_ ?_
      | refine LeO.bind ?_ (fun _ => ?_)
    · intro y0 y1 y2 y3 y4 y5 y6 y7 y8 y9 y10 y11 y12
      unfold annexlaw17_RtoBetween.l0
      repeat' first
      | (with_reducible exact ih0 _ _ _ _ _ _ _ _ _ _ _ _ _)
      | (with_reducible exact ih1 _ _ _ _ _ _ _ _ _ _ _ _)
      | (with_reducible exact ih2 _ _ _ _ _ _ _ _ _ _ _ _ _)
      | (with_reducible exact LeO.refl _)
      | (with_reducible exact LeO.none _)
      | (with_reducible refine LeO.ite ?_ ?_)
      | (with_reducible refine LeO.bind ?_ (fun _ => ?_))
      | exact ih0 _ _ _ _ _ _ _ _ _ _ _ _ _
      | exact ih1 _ _ _ _ _ _ _ _ _ _ _ _
      | exact ih2 _ _ _ _ _ _ _ _ _ _ _ _ _
      | exact LeO.none _
      | refine LeO.ite ?_ ?_
      | refine LeO.bind ?_ (fun _ => ?_)
theorem annexlaw17_RtoBetween.mono : ∀ a0 a1 a2 a3 a4 a5 k, LeO (annexlaw17_RtoBetween.f k a0 a1 a2 a3 a4 a5) (annexlaw17_RtoBetween.f (k + 1) a0 a1 a2 a3 a4 a5) := by
  intro a0 a1 a2 a3 a4 a5 k
  obtain ⟨ih0, ih1, ih2⟩ := annexlaw17_RtoBetween.mono_l k
  unfold annexlaw17_RtoBetween.f
  repeat' first
      | (with_reducible exact ih0 _ _ _ _ _ _ _ _ _ _ _ _ _)
      | (with_reducible exact ih1 _ _ _ _ _ _ _ _ _ _ _ _)
      | (with_reducible exact ih2 _ _ _ _ _ _ _ _ _ _ _ _ _)
      | (with_reducible exact LeO.refl _)
      | (with_reducible exact LeO.none _)
      | (with_reducible refine LeO.ite ?_ ?_)
      | (with_reducible refine LeO.bind ?_ (fun _ => ?_))
      | exact ih0 _ _ _ _ _ _ _ _ _ _ _ _ _
      | exact ih1 _ _ _ _ _ _ _ _ _ _ _ _
      | exact ih2 _ _ _ _ _ _ _ _ _ _ _ _ _
      | exact LeO.none _
      | refine LeO.ite ?_ ?_
      | refine LeO.bind ?_ (fun _ => ?_)
def annexlaw17_RtoBetween.T15 : Bool × List (List Nat × List Nat) := (true, [([], []), ([], []), ([], []), ([], []), ([], []), ([3, 4], [3, 4]), ([5], [5]), ([], []), ([], []), ([7, 8], [7, 8]), ([9], [9]), ([6, 10], [6, 10]), ([2, 11], [2, 11]), ([0, 1, 12], [0, 1, 12]), ([13, 13, 0, 1, 2, 3, 4, 5, 6, 7, 8, 9, 10, 11, 12, 13], [13])])
def annexlaw17_RtoBetween.B15 : List Nat := [0, 0, 0, 0, 0, 24, 56, 0, 0, 384, 896, 2040, 4092, 8191, 16383]
theorem annexlaw17_RtoBetween.tab15 : rtab .any (opsOf Tryd.f10 15) = annexlaw17_RtoBetween.T15 := by kernel_rfl
theorem annexlaw17_RtoBetween.bits15 : waitsOk annexlaw17_RtoBetween.T15.2 annexlaw17_RtoBetween.B15 = true := by kernel_rfl
set_option maxHeartbeats 8000000 in
set_option maxRecDepth 100000 in
theorem annexlaw17_RtoBetween.calls (k : Nat) (a0_0 : Int) (a0_1 : Int) (a0_2 : Int) (a1 : Int) (a2 : Int) (A3 : Option Addr) (c3 : Nat) (l3 : List Int) (r : Bool) (w : World) (hG : Tied w) (hr3 : Kd.C (Kd.int .i64) w A3 l3.length l3) (hc3 : l3.length ≤ c3) (h : annexlaw17_RtoBetween.f k a0_0 a0_1 a0_2 a1 a2 l3 = some r) :
    Calls Tryd.prog 10 #[.agg #[.int .i64 a0_0, .int .i64 a0_1, .int .i64 a0_2], .int .i64 a1, .int .i64 a2, .slice A3 l3.length c3] w fun e w' => e = .returned (.bool r) ∧ Below w.heap.size w w' := by
  have hu23 := Tryd.underlying23
  have hu26 := Tryd.underlying26
  have HG := Aside0.mk hG
  clear hG
  have HR3 := Aside0.mk hr3
  have HC3 := Aside0.mk hc3
  clear hr3 hc3
  have HB := Aside0.mk (Below.refl w.heap.size w)
  have H : ((annexlaw17_known.f).bind fun t332 => ((rto_Start.f a0_0 a0_1 a0_2).bind fun bt333 => ((annexlaw17_right.f a0_0 a0_1 a0_2).bind fun t340 => (if t332 = true then ((annexlaw17_num.f bt333.2.2.2.2.2).bind fun t341 => (annexlaw17_RtoBetween.j0 k a1 a2 l3 t340 ((t341 == 0) != t340) a0_0 a0_1 a0_2 bt333.1 bt333.2.1 bt333.2.2.1 bt333.2.2.2.1 bt333.2.2.2.2.1)) else (annexlaw17_RtoBetween.j0 k a1 a2 l3 t340 true a0_0 a0_1 a0_2 bt333.1 bt333.2.1 bt333.2.2.1 bt333.2.2.2.1 bt333.2.2.2.2.1))))) = some r := h
  clear h
  replace H := Option.bind_eq_some_iff.mp H
  obtain ⟨t332, A50, H⟩ := H
  replace H : ((rto_Start.f a0_0 a0_1 a0_2).bind fun bt333 => ((annexlaw17_right.f a0_0 a0_1 a0_2).bind fun t340 => (if t332 = true then ((annexlaw17_num.f bt333.2.2.2.2.2).bind fun t341 => (annexlaw17_RtoBetween.j0 k a1 a2 l3 t340 ((t341 == 0) != t340) a0_0 a0_1 a0_2 bt333.1 bt333.2.1 bt333.2.2.1 bt333.2.2.2.1 bt333.2.2.2.2.1)) else (annexlaw17_RtoBetween.j0 k a1 a2 l3 t340 true a0_0 a0_1 a0_2 bt333.1 bt333.2.1 bt333.2.2.1 bt333.2.2.2.1 bt333.2.2.2.2.1)))) = some r := H
  have A5 := Aside0.mk A50
  clear A50
  replace H := Option.bind_eq_some_iff.mp H
  obtain ⟨⟨t333, t334, t335, t336, t337, t338⟩, A60, H⟩ := H
  replace H : ((annexlaw17_right.f a0_0 a0_1 a0_2).bind fun t340 => (if t332 = true then ((annexlaw17_num.f t338).bind fun t341 => (annexlaw17_RtoBetween.j0 k a1 a2 l3 t340 ((t341 == 0) != t340) a0_0 a0_1 a0_2 t333 t334 t335 t336 t337)) else (annexlaw17_RtoBetween.j0 k a1 a2 l3 t340 true a0_0 a0_1 a0_2 t333 t334 t335 t336 t337))) = some r := H
  have A6 := Aside0.mk A60
  clear A60
  replace H := Option.bind_eq_some_iff.mp H
  obtain ⟨t340, A70, H⟩ := H
  replace H : (if t332 = true then ((annexlaw17_num.f t338).bind fun t341 => (annexlaw17_RtoBetween.j0 k a1 a2 l3 t340 ((t341 == 0) != t340) a0_0 a0_1 a0_2 t333 t334 t335 t336 t337)) else (annexlaw17_RtoBetween.j0 k a1 a2 l3 t340 true a0_0 a0_1 a0_2 t333 t334 t335 t336 t337)) = some r := H
  have A7 := Aside0.mk A70
  clear A70
  have HC8 := Aside0.mk H
  clear H
  go_enter Tryd.func10, Tryd.ntmps10
  go_upto_region 4 with (first | ((with_reducible refine gate_dst (N := 4) rfl ?_); refine box_event ?hg (N := 4) ?hd (cs := #[.int .i64 a0_0, .int .i64 a0_1, .int .i64 a0_2]) (t := 23) ?hr ?_; (case hd => rfl); (case hg => rfl); (case hr => first | (go_simp; done) | (go_simp; rfl)); intro gb331 hg w9 hbox hb; have n0_ := Aside0.mk (below_step (by repeat (first | (with_reducible first | exact HB.out | apply below_alloc | apply pw_below_drewN | apply below_drew1) | exact HB.out)) hb); have n1_ := Aside0.mk (hbox); have n2_ := Aside0.mk ((by rw [hg]; exact (below_size (by repeat (first | (with_reducible first | exact HB.out | apply below_alloc | apply pw_below_drewN | apply below_drew1) | exact HB.out))) : w.heap.size ≤ gb331)); have n3_ := Aside0.mk ((by rw [hg]; exact (below_size (by repeat (first | (with_reducible first | exact HB.out | apply below_alloc | apply pw_below_drewN | apply below_drew1) | exact HB.out))) : w.heap.size ≤ gb331)); clear HB; have HB := n0_; have BK331 := n1_; have GW331 := n2_; have GE331 := n3_; clear n0_ n1_ n2_ n3_; clear hb hbox hg) | ((with_reducible refine gate_callee (f := 12) rfl ?_); refine goesL_ (some 15) rfl rfl Tryd.func12 (by kernel_rfl) rfl #[] rfl (by (try simp only [List.map_toArray, List.map_cons, List.map_nil]); first | done | rfl | (simp only [List.length_drop, List.length_take]; rfl)) ?_; (with_reducible refine (annexlaw17_known.calls  t332 _ ?side1 A5.out).mono ?_); (case side1 => exact Tied.below HG.out (by repeat (first | (with_reducible first | exact HB.out | apply below_alloc | apply pw_below_drewN | apply below_drew1 | refine below_set ?_ GE331.out) | exact HB.out))); rintro e w10 ⟨rfl, hb⟩; refine ⟨_, rfl, ?_⟩; have n0_ := Aside0.mk (blk_below (g := gb331) (o := .cells #[.int .i64 a0_0, .int .i64 a0_1, .int .i64 a0_2] 23 (0, 0)) (by (with_reducible repeat (first | refine blk_drewN ?_ _ | refine blk_drew ?_ | refine blk_alloc ?_ _)); exact BK331.out) hb); have n1_ := Aside0.mk (below_step (by repeat (first | (with_reducible first | exact HB.out | apply below_alloc | apply pw_below_drewN | apply below_drew1 | refine below_set ?_ GE331.out) | exact HB.out)) hb); clear BK331; clear HB; have BK331 := n0_; have HB := n1_; clear n0_ n1_; (try clear hb); (try clear hb2); (try clear hk); (try clear hi); have hcz11_0 : w10.cell? ⟨gb331, 0, none⟩ = some (.int .i64 a0_0) := (blk_cell BK331.out 0).trans rfl; have hcz11_1 : w10.cell? ⟨gb331, 1, none⟩ = some (.int .i64 a0_1) := (blk_cell BK331.out 1).trans rfl; have hcz11_2 : w10.cell? ⟨gb331, 2, none⟩ = some (.int .i64 a0_2) := (blk_cell BK331.out 2).trans rfl; have hfz11_0 := blk_frozen BK331.out 0; have hfz11_1 := blk_frozen BK331.out 1; have hfz11_2 := blk_frozen BK331.out 2) | ((with_reducible refine gate_callee (f := 13) rfl ?_); refine goesL_ (some 18) rfl rfl Tryd.func13 (by kernel_rfl) rfl #[.agg #[.int .i64 a0_0, .int .i64 a0_1, .int .i64 a0_2]] rfl (by (try simp only [List.map_toArray, List.map_cons, List.map_nil]); first | done | rfl | (simp only [List.length_drop, List.length_take]; rfl)) ?_; (with_reducible refine (rto_Start.calls a0_0 a0_1 a0_2 t333 t334 t335 t336 t337 t338 _ ?side1 A6.out).mono ?_); (case side1 => exact Tied.below HG.out (by repeat (first | (with_reducible first | exact HB.out | apply below_alloc | apply pw_below_drewN | apply below_drew1 | refine below_set ?_ GE331.out) | exact HB.out))); rintro e w12 ⟨rfl, hb⟩; refine ⟨_, rfl, ?_⟩; have n0_ := Aside0.mk (blk_below (g := gb331) (o := .cells #[.int .i64 a0_0, .int .i64 a0_1, .int .i64 a0_2] 23 (0, 0)) (by (with_reducible repeat (first | refine blk_drewN ?_ _ | refine blk_drew ?_ | refine blk_alloc ?_ _)); exact BK331.out) hb); have n1_ := Aside0.mk (below_step (by repeat (first | (with_reducible first | exact HB.out | apply below_alloc | apply pw_below_drewN | apply below_drew1 | refine below_set ?_ GE331.out) | exact HB.out)) hb); clear BK331; clear HB; have BK331 := n0_; have HB := n1_; clear n0_ n1_; (try clear hb); (try clear hb2); (try clear hk); (try clear hi)) | ((with_reducible refine gate_dst (N := 10) rfl ?_); refine box_event ?hg (N := 10) ?hd (cs := #[.int .i64 0, .int .i64 0, .int .i64 0, .int .i64 0, .bool false]) (t := 26) ?hr ?_; (case hd => rfl); (case hg => rfl); (case hr => first | (go_simp; done) | (go_simp; rfl)); intro gb339 hg w13 hbox hb; have n0_ := Aside0.mk (blk_below (g := gb331) (o := .cells #[.int .i64 a0_0, .int .i64 a0_1, .int .i64 a0_2] 23 (0, 0)) (by (with_reducible repeat (first | refine blk_drewN ?_ _ | refine blk_drew ?_ | refine blk_alloc ?_ _)); exact BK331.out) hb); have n1_ := Aside0.mk (below_step (by repeat (first | (with_reducible first | exact HB.out | apply below_alloc | apply pw_below_drewN | apply below_drew1 | refine below_set ?_ GE331.out) | exact HB.out)) hb); have n2_ := Aside0.mk (hbox); have n3_ := Aside0.mk ((by rw [hg]; exact (below_size (by repeat (first | (with_reducible first | exact HB.out | apply below_alloc | apply pw_below_drewN | apply below_drew1 | refine below_set ?_ GE331.out) | exact HB.out))) : w.heap.size ≤ gb339)); have n4_ := Aside0.mk ((by rw [hg]; exact (below_size (by repeat (first | (with_reducible first | exact HB.out | apply below_alloc | apply pw_below_drewN | apply below_drew1 | refine below_set ?_ GE331.out) | exact HB.out))) : w.heap.size ≤ gb339)); have n5_ := Aside0.mk ((by rw [hg]; exact Nat.ne_of_lt (blk_lt (g := gb331) (o := .cells #[.int .i64 a0_0, .int .i64 a0_1, .int .i64 a0_2] 23 (0, 0)) (by (with_reducible repeat (first | refine blk_drewN ?_ _ | refine blk_drew ?_ | refine blk_alloc ?_ _)); exact BK331.out)) : gb331 ≠ gb339)); have n6_ := Aside0.mk ((by rw [hg]; exact Nat.ne_of_gt (blk_lt (g := gb331) (o := .cells #[.int .i64 a0_0, .int .i64 a0_1, .int .i64 a0_2] 23 (0, 0)) (by (with_reducible repeat (first | refine blk_drewN ?_ _ | refine blk_drew ?_ | refine blk_alloc ?_ _)); exact BK331.out)) : gb339 ≠ gb331)); clear BK331; clear HB; have BK331 := n0_; have HB := n1_; have BK339 := n2_; have GW339 := n3_; have GE339 := n4_; have NB331_339 := n5_; have NB339_331 := n6_; clear n0_ n1_ n2_ n3_ n4_ n5_ n6_; clear hb hbox hg; have hnb14 := NB339_331.out; have hnc14 := NB331_339.out; have hcz15_0 : w13.cell? ⟨gb339, 0, none⟩ = some (.int .i64 0) := (blk_cell BK339.out 0).trans rfl; have hcz15_1 : w13.cell? ⟨gb339, 1, none⟩ = some (.int .i64 0) := (blk_cell BK339.out 1).trans rfl; have hcz15_2 : w13.cell? ⟨gb339, 2, none⟩ = some (.int .i64 0) := (blk_cell BK339.out 2).trans rfl; have hcz15_3 : w13.cell? ⟨gb339, 3, none⟩ = some (.int .i64 0) := (blk_cell BK339.out 3).trans rfl; have hcz15_4 : w13.cell? ⟨gb339, 4, none⟩ = some (.bool false) := (blk_cell BK339.out 4).trans rfl; have hfz15_0 := blk_frozen BK339.out 0; have hfz15_1 := blk_frozen BK339.out 1; have hfz15_2 := blk_frozen BK339.out 2; have hfz15_3 := blk_frozen BK339.out 3; have hfz15_4 := blk_frozen BK339.out 4; have hcz16_0 : w13.cell? ⟨gb331, 0, none⟩ = some (.int .i64 a0_0) := (blk_cell BK331.out 0).trans rfl; have hcz16_1 : w13.cell? ⟨gb331, 1, none⟩ = some (.int .i64 a0_1) := (blk_cell BK331.out 1).trans rfl; have hcz16_2 : w13.cell? ⟨gb331, 2, none⟩ = some (.int .i64 a0_2) := (blk_cell BK331.out 2).trans rfl; have hfz16_0 := blk_frozen BK331.out 0; have hfz16_1 := blk_frozen BK331.out 1; have hfz16_2 := blk_frozen BK331.out 2) | ((with_reducible refine gate_callee (f := 23) rfl ?_); refine goesL_ (some 22) rfl rfl Tryd.func23 (by kernel_rfl) rfl #[.agg #[.int .i64 a0_0, .int .i64 a0_1, .int .i64 a0_2]] rfl (by (try simp only [List.map_toArray, List.map_cons, List.map_nil]); first | done | rfl | (simp only [List.length_drop, List.length_take]; rfl)) ?_; (with_reducible refine (annexlaw17_right.calls a0_0 a0_1 a0_2 t340 _ A7.out).mono ?_); rintro e w17 ⟨rfl, hb⟩; refine ⟨_, rfl, ?_⟩; have n0_ := Aside0.mk (blk_below (g := gb331) (o := .cells #[.int .i64 a0_0, .int .i64 a0_1, .int .i64 a0_2] 23 (0, 0)) (by (with_reducible repeat (first | refine blk_drewN ?_ _ | refine blk_drew ?_ | refine blk_alloc ?_ _)); refine blk_far ?_ NB331_339.out _; (with_reducible repeat (first | refine blk_drewN ?_ _ | refine blk_drew ?_ | refine blk_alloc ?_ _)); refine blk_far ?_ NB331_339.out _; (with_reducible repeat (first | refine blk_drewN ?_ _ | refine blk_drew ?_ | refine blk_alloc ?_ _)); refine blk_far ?_ NB331_339.out _; (with_reducible repeat (first | refine blk_drewN ?_ _ | refine blk_drew ?_ | refine blk_alloc ?_ _)); refine blk_far ?_ NB331_339.out _; (with_reducible repeat (first | refine blk_drewN ?_ _ | refine blk_drew ?_ | refine blk_alloc ?_ _)); refine blk_far ?_ NB331_339.out _; (with_reducible repeat (first | refine blk_drewN ?_ _ | refine blk_drew ?_ | refine blk_alloc ?_ _)); exact BK331.out) hb); have n1_ := Aside0.mk (blk_below (g := gb339) (o := .cells #[.int .i64 t333, .int .i64 t334, .int .i64 t335, .int .i64 t336, .bool t337] 26 (0, 0)) (by (with_reducible repeat (first | refine blk_drewN ?_ _ | refine blk_drew ?_ | refine blk_alloc ?_ _)); refine blk_put (cs := #[.int .i64 t333, .int .i64 t334, .int .i64 t335, .int .i64 t336, .bool false]) ?_ 4 _ rfl; (with_reducible repeat (first | refine blk_drewN ?_ _ | refine blk_drew ?_ | refine blk_alloc ?_ _)); refine blk_put (cs := #[.int .i64 t333, .int .i64 t334, .int .i64 t335, .int .i64 0, .bool false]) ?_ 3 _ rfl; (with_reducible repeat (first | refine blk_drewN ?_ _ | refine blk_drew ?_ | refine blk_alloc ?_ _)); refine blk_put (cs := #[.int .i64 t333, .int .i64 t334, .int .i64 0, .int .i64 0, .bool false]) ?_ 2 _ rfl; (with_reducible repeat (first | refine blk_drewN ?_ _ | refine blk_drew ?_ | refine blk_alloc ?_ _)); refine blk_put (cs := #[.int .i64 t333, .int .i64 0, .int .i64 0, .int .i64 0, .bool false]) ?_ 1 _ rfl; (with_reducible repeat (first | refine blk_drewN ?_ _ | refine blk_drew ?_ | refine blk_alloc ?_ _)); refine blk_put (cs := #[.int .i64 0, .int .i64 0, .int .i64 0, .int .i64 0, .bool false]) ?_ 0 _ rfl; (with_reducible repeat (first | refine blk_drewN ?_ _ | refine blk_drew ?_ | refine blk_alloc ?_ _)); exact BK339.out) hb); have n2_ := Aside0.mk (below_step (by repeat (first | (with_reducible first | exact HB.out | apply below_alloc | apply pw_below_drewN | apply below_drew1 | refine below_set ?_ GE331.out | refine below_set ?_ GE339.out) | exact HB.out)) hb); clear BK331; clear BK339; clear HB; have BK331 := n0_; have BK339 := n1_; have HB := n2_; clear n0_ n1_ n2_; (try clear hb); (try clear hb2); (try clear hk); (try clear hi)))
  (try simp only [Act.put, List.setIfInBounds_toArray, List.set_cons_zero, List.set_cons_succ])
  go_cut [31] (fun v31 wc => ∃ (kq : Nat) (x31_7 : Bool), v31 = .bool x31_7 ∧ Aside0 (annexlaw17_RtoBetween.j0 kq a1 a2 l3 t340 x31_7 a0_0 a0_1 a0_2 t333 t334 t335 t336 t337 = some r) ∧ Aside0 (kq ≤ k) ∧ Aside0 (wc.heap[gb331]? = some (.cells #[.int .i64 a0_0, .int .i64 a0_1, .int .i64 a0_2] 23 (0, 0))) ∧ Aside0 (wc.heap[gb339]? = some (.cells #[.int .i64 t333, .int .i64 t334, .int .i64 t335, .int .i64 t336, .bool t337] 26 (0, 0))) ∧ Aside0 (Below w.heap.size w wc))
  case first =>
    have H := HC8.out
    clear HC8
    by_cases c18 : t332 = true
    · subst c18
      have H1 : ((annexlaw17_num.f t338).bind fun t341 => (annexlaw17_RtoBetween.j0 k a1 a2 l3 t340 ((t341 == 0) != t340) a0_0 a0_1 a0_2 t333 t334 t335 t336 t337)) = some r := by rw [if_pos rfl] at H; exact H
      clear H
      have H := H1
      clear H1
      replace H := Option.bind_eq_some_iff.mp H
      obtain ⟨t341, A190, H⟩ := H
      replace H : (annexlaw17_RtoBetween.j0 k a1 a2 l3 t340 ((t341 == 0) != t340) a0_0 a0_1 a0_2 t333 t334 t335 t336 t337) = some r := H
      have A19 := Aside0.mk A190
      clear A190
      have H' := Aside0.mk H
      clear H
      go_wp2_with (first | (go_at_call 16; (with_reducible refine (annexlaw17_num.calls t338 t341 _ A19.out).mono ?_); rintro e w' ⟨rfl, ⟨nd, rfl⟩⟩))
      go_meet
      case rel => exact ⟨_, (((t341 == 0) != t340)), (by first | rfl | (simp; done) | (simp [*]; done)), H', ⟨by first | omega | exact Nat.le_refl _⟩, ⟨by (with_reducible repeat (first | refine blk_drewN ?_ _ | refine blk_drew ?_ | refine blk_alloc ?_ _)); exact BK331.out⟩, ⟨by (with_reducible repeat (first | refine blk_drewN ?_ _ | refine blk_drew ?_ | refine blk_alloc ?_ _)); exact BK339.out⟩, ⟨by repeat (first | (with_reducible first | exact HB.out | apply below_alloc | apply pw_below_drewN | apply below_drew1 | refine below_set ?_ GE331.out | refine below_set ?_ GE339.out) | exact HB.out)⟩⟩
    · replace c18 := Bool.eq_false_iff.mpr c18
      subst c18
      have H1 : (annexlaw17_RtoBetween.j0 k a1 a2 l3 t340 true a0_0 a0_1 a0_2 t333 t334 t335 t336 t337) = some r := by rw [if_neg (show ¬ (false = true) by decide)] at H; exact H
      clear H
      have H := H1
      clear H1
      have H' := Aside0.mk H
      clear H
      go_wp2
      go_meet
      case rel => exact ⟨_, (true), (by first | rfl | (simp; done) | (simp [*]; done)), H', ⟨by first | omega | exact Nat.le_refl _⟩, ⟨by (with_reducible repeat (first | refine blk_drewN ?_ _ | refine blk_drew ?_ | refine blk_alloc ?_ _)); exact BK331.out⟩, ⟨by (with_reducible repeat (first | refine blk_drewN ?_ _ | refine blk_drew ?_ | refine blk_alloc ?_ _)); exact BK339.out⟩, ⟨by repeat (first | (with_reducible first | exact HB.out | apply below_alloc | apply pw_below_drewN | apply below_drew1 | refine below_set ?_ GE331.out | refine below_set ?_ GE339.out) | exact HB.out)⟩⟩
  case rest =>
    clear HC8
    try clear c1
    try clear c2
    try clear p2
    try clear c3
    try clear c10
    try clear c12
    try clear c13
    try clear c14
    try clear c18
    try clear hcz11_0
    try clear hcz11_1
    try clear hcz11_2
    try clear hcz15_0
    try clear hcz15_1
    try clear hcz15_2
    try clear hcz15_3
    try clear hcz15_4
    try clear hcz16_0
    try clear hcz16_1
    try clear hcz16_2
    try clear hfz11_0
    try clear hfz11_1
    try clear hfz11_2
    try clear hfz15_0
    try clear hfz15_1
    try clear hfz15_2
    try clear hfz15_3
    try clear hfz15_4
    try clear hfz16_0
    try clear hfz16_1
    try clear hfz16_2
    obtain ⟨kq, x31_7, rfl, HA, HJ7, BK331, BK339, HB⟩ := hcut
    cases kq with
    | zero => exact absurd HA.out (by simp [annexlaw17_RtoBetween.j0])
    | succ kj7 =>
      have H := HA.out
      clear HA
      simp only [annexlaw17_RtoBetween.j0] at H
      by_cases c20 : x31_7 = true
      · subst c20
        have H1 : (some false) = some r := by rw [if_pos rfl] at H; exact H
        clear H
        have H := H1
        clear H1
        obtain rfl := Option.some.inj H
        go_wp2
        go_ret
        exact ⟨by first | rfl | (simp [errW_none, errW_some] <;> rfl) | (simp [*, errW_none, errW_some] <;> rfl), by repeat (first | (with_reducible first | exact HB.out | apply below_alloc | apply pw_below_drewN | apply below_drew1 | refine below_set ?_ GE331.out | refine below_set ?_ GE339.out) | exact HB.out)⟩
      · replace c20 := Bool.eq_false_iff.mpr c20
        subst c20
        have H1 : (if t340 = true then (if a1 < 1 then (annexlaw17_RtoBetween.j1 kj7 a1 a2 l3 true a0_0 a0_1 a0_2 t333 t334 t335 t336 t337) else (if a2 < a1 then (annexlaw17_RtoBetween.j1 kj7 a1 a2 l3 true a0_0 a0_1 a0_2 t333 t334 t335 t336 t337) else (annexlaw17_RtoBetween.j1 kj7 a1 a2 l3 (decide (a2 > 1048576)) a0_0 a0_1 a0_2 t333 t334 t335 t336 t337))) else (annexlaw17_RtoBetween.j1 kj7 a1 a2 l3 true a0_0 a0_1 a0_2 t333 t334 t335 t336 t337)) = some r := by rw [if_neg (show ¬ (false = true) by decide)] at H; exact H
        clear H
        have H := H1
        clear H1
        have HC21 := Aside0.mk H
        clear H
        go_upto_region 6 with (fail)
        go_cut [46] (fun v46 wc => ∃ (kq : Nat) (x46_20 : Bool), v46 = .bool x46_20 ∧ Aside0 (annexlaw17_RtoBetween.j1 kq a1 a2 l3 x46_20 a0_0 a0_1 a0_2 t333 t334 t335 t336 t337 = some r) ∧ Aside0 (kq ≤ kj7) ∧ Aside0 (wc.heap[gb331]? = some (.cells #[.int .i64 a0_0, .int .i64 a0_1, .int .i64 a0_2] 23 (0, 0))) ∧ Aside0 (wc.heap[gb339]? = some (.cells #[.int .i64 t333, .int .i64 t334, .int .i64 t335, .int .i64 t336, .bool t337] 26 (0, 0))) ∧ Aside0 (Below w.heap.size w wc))
        case first =>
          have H := HC21.out
          clear HC21
          by_cases c22 : t340 = true
          · subst c22
            have H1 : (if a1 < 1 then (annexlaw17_RtoBetween.j1 kj7 a1 a2 l3 true a0_0 a0_1 a0_2 t333 t334 t335 t336 t337) else (if a2 < a1 then (annexlaw17_RtoBetween.j1 kj7 a1 a2 l3 true a0_0 a0_1 a0_2 t333 t334 t335 t336 t337) else (annexlaw17_RtoBetween.j1 kj7 a1 a2 l3 (decide (a2 > 1048576)) a0_0 a0_1 a0_2 t333 t334 t335 t336 t337))) = some r := by rw [if_pos rfl] at H; exact H
            clear H
            have H := H1
            clear H1
            by_cases c23 : a1 < 1
            · rw [if_pos c23] at H
              have c23b0 : decide (a1 < 1) = true := decide_eq_true c23
              clear c23
              (first | rw [c23b0] | (simp only [i64_w, i32_w]; rw [c23b0]) | skip)
              have H' := Aside0.mk H
              clear H
              go_wp2
              go_meet
              case rel => exact ⟨_, (true), (by first | rfl | (simp; done) | (simp [*]; done)), H', ⟨by have := HJ7.out; first | omega | exact Nat.le_refl _⟩, ⟨by (with_reducible repeat (first | refine blk_drewN ?_ _ | refine blk_drew ?_ | refine blk_alloc ?_ _)); exact BK331.out⟩, ⟨by (with_reducible repeat (first | refine blk_drewN ?_ _ | refine blk_drew ?_ | refine blk_alloc ?_ _)); exact BK339.out⟩, ⟨by repeat (first | (with_reducible first | exact HB.out | apply below_alloc | apply pw_below_drewN | apply below_drew1 | refine below_set ?_ GE331.out | refine below_set ?_ GE339.out) | exact HB.out)⟩⟩
            · rw [if_neg c23] at H
              have c23b0 : decide (a1 < 1) = false := decide_eq_false c23
              clear c23
              (first | rw [c23b0] | (simp only [i64_w, i32_w]; rw [c23b0]) | skip)
              by_cases c24 : a2 < a1
              · rw [if_pos c24] at H
                have c24b0 : decide (a2 < a1) = true := decide_eq_true c24
                clear c24
                have H' := Aside0.mk H
                clear H
                go_wp2
                go_meet
                case rel => exact ⟨_, (true), (by first | rfl | (simp; done) | (simp [*]; done)), H', ⟨by have := HJ7.out; first | omega | exact Nat.le_refl _⟩, ⟨by (with_reducible repeat (first | refine blk_drewN ?_ _ | refine blk_drew ?_ | refine blk_alloc ?_ _)); exact BK331.out⟩, ⟨by (with_reducible repeat (first | refine blk_drewN ?_ _ | refine blk_drew ?_ | refine blk_alloc ?_ _)); exact BK339.out⟩, ⟨by repeat (first | (with_reducible first | exact HB.out | apply below_alloc | apply pw_below_drewN | apply below_drew1 | refine below_set ?_ GE331.out | refine below_set ?_ GE339.out) | exact HB.out)⟩⟩
              · rw [if_neg c24] at H
                have c24b0 : decide (a2 < a1) = false := decide_eq_false c24
                clear c24
                have H' := Aside0.mk H
                clear H
                go_wp2
                go_meet
                case rel => exact ⟨_, (decide (a2 > 1048576)), (by first | rfl | (simp; done) | (simp [*]; done)), H', ⟨by have := HJ7.out; first | omega | exact Nat.le_refl _⟩, ⟨by (with_reducible repeat (first | refine blk_drewN ?_ _ | refine blk_drew ?_ | refine blk_alloc ?_ _)); exact BK331.out⟩, ⟨by (with_reducible repeat (first | refine blk_drewN ?_ _ | refine blk_drew ?_ | refine blk_alloc ?_ _)); exact BK339.out⟩, ⟨by repeat (first | (with_reducible first | exact HB.out | apply below_alloc | apply pw_below_drewN | apply below_drew1 | refine below_set ?_ GE331.out | refine below_set ?_ GE339.out) | exact HB.out)⟩⟩
          · replace c22 := Bool.eq_false_iff.mpr c22
            subst c22
            have H1 : (annexlaw17_RtoBetween.j1 kj7 a1 a2 l3 true a0_0 a0_1 a0_2 t333 t334 t335 t336 t337) = some r := by rw [if_neg (show ¬ (false = true) by decide)] at H; exact H
            clear H
            have H := H1
            clear H1
            have H' := Aside0.mk H
            clear H
            go_wp2
            go_meet
            case rel => exact ⟨_, (true), (by first | rfl | (simp; done) | (simp [*]; done)), H', ⟨by have := HJ7.out; first | omega | exact Nat.le_refl _⟩, ⟨by (with_reducible repeat (first | refine blk_drewN ?_ _ | refine blk_drew ?_ | refine blk_alloc ?_ _)); exact BK331.out⟩, ⟨by (with_reducible repeat (first | refine blk_drewN ?_ _ | refine blk_drew ?_ | refine blk_alloc ?_ _)); exact BK339.out⟩, ⟨by repeat (first | (with_reducible first | exact HB.out | apply below_alloc | apply pw_below_drewN | apply below_drew1 | refine below_set ?_ GE331.out | refine below_set ?_ GE339.out) | exact HB.out)⟩⟩
        case rest =>
          clear HC21
          try clear c1
          try clear c2
          try clear p2
          try clear c3
          try clear c10
          try clear c12
          try clear c13
          try clear c14
          try clear c18
          try clear c20
          try clear c22
          try clear c23
          try clear c23b0
          try clear c24
          try clear c24b0
          try clear hcz11_0
          try clear hcz11_1
          try clear hcz11_2
          try clear hcz15_0
          try clear hcz15_1
          try clear hcz15_2
          try clear hcz15_3
          try clear hcz15_4
          try clear hcz16_0
          try clear hcz16_1
          try clear hcz16_2
          try clear hfz11_0
          try clear hfz11_1
          try clear hfz11_2
          try clear hfz15_0
          try clear hfz15_1
          try clear hfz15_2
          try clear hfz15_3
          try clear hfz15_4
          try clear hfz16_0
          try clear hfz16_1
          try clear hfz16_2
          try clear p2
          obtain ⟨kq, x46_20, rfl, HA, HJ20, BK331, BK339, HB⟩ := hcut
          cases kq with
          | zero => exact absurd HA.out (by simp [annexlaw17_RtoBetween.j1])
          | succ kj20 =>
            have H := HA.out
            clear HA
            simp only [annexlaw17_RtoBetween.j1] at H
            by_cases c25 : x46_20 = true
            · subst c25
              have H1 : (some true) = some r := by rw [if_pos rfl] at H; exact H
              clear H
              have H := H1
              clear H1
              obtain rfl := Option.some.inj H
              go_wp2
              go_ret
              exact ⟨by first | rfl | (simp [errW_none, errW_some] <;> rfl) | (simp [*, errW_none, errW_some] <;> rfl), by repeat (first | (with_reducible first | exact HB.out | apply below_alloc | apply pw_below_drewN | apply below_drew1 | refine below_set ?_ GE331.out | refine below_set ?_ GE339.out) | exact HB.out)⟩
            · replace c25 := Bool.eq_false_iff.mpr c25
              subst c25
              have H1 : (annexlaw17_RtoBetween.l0 kj20 a1 a2 l3 false 0 a0_0 a0_1 a0_2 t333 t334 t335 t336 t337) = some r := by rw [if_neg (show ¬ (false = true) by decide)] at H; exact H
              clear H
              have H := H1
              clear H1
              have H' := Aside0.mk H
              clear H
              go_wp2
              go_loopg [13, 14] kj20 (fun kq v13 v14 w' => ∃ (x13_3 : Bool) (x14_3 : Int) (x340000_3 : Int) (x340001_3 : Int) (x340002_3 : Int) (x340003_3 : Int) (x340004_3 : Bool), v13 = .bool x13_3 ∧ v14 = .int .i64 x14_3 ∧ Aside0 (annexlaw17_RtoBetween.l0 kq a1 a2 l3 x13_3 x14_3 a0_0 a0_1 a0_2 x340000_3 x340001_3 x340002_3 x340003_3 x340004_3 = some r) ∧ Aside0 (kq ≤ kj20) ∧ Aside0 (w'.heap[gb331]? = some (.cells #[.int .i64 a0_0, .int .i64 a0_1, .int .i64 a0_2] 23 (0, 0))) ∧ Aside0 (w'.heap[gb339]? = some (.cells #[.int .i64 x340000_3, .int .i64 x340001_3, .int .i64 x340002_3, .int .i64 x340003_3, .bool x340004_3] 26 (0, 0))) ∧ Aside0 (Below w.heap.size w w'))
              case atStart => exact ⟨(false), (0), (t333), (t334), (t335), (t336), (t337), (by first | rfl | (simp; done) | (simp [*]; done)), (by first | rfl | (simp; done) | (simp [*]; done)), H', ⟨Nat.le_refl _⟩, ⟨by (with_reducible repeat (first | refine blk_drewN ?_ _ | refine blk_drew ?_ | refine blk_alloc ?_ _)); exact BK331.out⟩, ⟨by (with_reducible repeat (first | refine blk_drewN ?_ _ | refine blk_drew ?_ | refine blk_alloc ?_ _)); exact BK339.out⟩, ⟨by repeat (first | (with_reducible first | exact HB.out | apply below_alloc | apply pw_below_drewN | apply below_drew1 | refine below_set ?_ GE331.out | refine below_set ?_ GE339.out) | exact HB.out)⟩⟩
              case round =>
                clear H'
                try clear c1
                try clear c2
                try clear p2
                try clear c3
                try clear c10
                try clear c12
                try clear c13
                try clear c14
                try clear c18
                try clear c20
                try clear c22
                try clear c23
                try clear c23b0
                try clear c24
                try clear c24b0
                try clear c25
                try clear hcz11_0
                try clear hcz11_1
                try clear hcz11_2
                try clear hcz15_0
                try clear hcz15_1
                try clear hcz15_2
                try clear hcz15_3
                try clear hcz15_4
                try clear hcz16_0
                try clear hcz16_1
                try clear hcz16_2
                try clear hfz11_0
                try clear hfz11_1
                try clear hfz11_2
                try clear hfz15_0
                try clear hfz15_1
                try clear hfz15_2
                try clear hfz15_3
                try clear hfz15_4
                try clear hfz16_0
                try clear hfz16_1
                try clear hfz16_2
                try clear p2
                obtain ⟨x13_3, x14_3, x340000_3, x340001_3, x340002_3, x340003_3, x340004_3, rfl, rfl, HA, HK3, BK331, BK339, HB⟩ := hrel
                cases gk with
                | zero => exact absurd HA.out (by simp [annexlaw17_RtoBetween.l0])
                | succ k3 =>
                  have H := HA.out
                  clear HA
                  simp only [annexlaw17_RtoBetween.l0] at H
                  by_cases c26 : x14_3 < (l3.length : Int)
                  · rw [if_pos c26] at H
                    have c26b0 : decide (x14_3 < (l3.length : Int)) = true := decide_eq_true c26
                    clear c26
                    by_cases c27 : 0 ≤ x14_3
                    · rw [if_pos c27] at H
                      have c27b0 : decide (0 ≤ x14_3) = true := decide_eq_true c27
                      clear c27
                      by_cases c28 : (rd l3 x14_3) < 0
                      · rw [if_pos c28] at H
                        have c28b0 : decide ((rd l3 x14_3) < 0) = true := decide_eq_true c28
                        clear c28
                        replace H := Option.bind_eq_some_iff.mp H
                        obtain ⟨⟨t343, t344, t345, t346, t347⟩, A290, H⟩ := H
                        replace H : (annexlaw17_RtoBetween.l0 k3 a1 a2 l3 x13_3 (wrap64 (x14_3 + 1)) a0_0 a0_1 a0_2 t343 t344 t345 t346 t347) = some r := H
                        have A29 := Aside0.mk A290
                        clear A290
                        have H' := Aside0.mk H
                        clear H
                        have p342 : 0 ≤ (x14_3 : Int) := of_decide_eq_true (by first | (with_reducible assumption) | assumption)
                        have q342 : x14_3 < (l3.length : Int) := of_decide_eq_true (by first | (with_reducible assumption) | assumption)
                        obtain ⟨ad342, e342, hx342_0⟩ := Kd.at_int HR3.out x14_3 p342 q342
                        cases e342
                        replace hx342_0 := (HB.out.cell (World.block_lt_of_cell? w _ hx342_0)).trans hx342_0
                        replace p342 := eq_true p342
                        replace q342 := eq_true q342
                        have hnb30 := NB331_339.out
                        have hnc30 := NB339_331.out
                        have hcz31_0 : wr.cell? ⟨gb331, 0, none⟩ = some (.int .i64 a0_0) := (blk_cell BK331.out 0).trans rfl
                        have hcz31_1 : wr.cell? ⟨gb331, 1, none⟩ = some (.int .i64 a0_1) := (blk_cell BK331.out 1).trans rfl
                        have hcz31_2 : wr.cell? ⟨gb331, 2, none⟩ = some (.int .i64 a0_2) := (blk_cell BK331.out 2).trans rfl
                        have hfz31_0 := blk_frozen BK331.out 0
                        have hfz31_1 := blk_frozen BK331.out 1
                        have hfz31_2 := blk_frozen BK331.out 2
                        have hcz32_0 : wr.cell? ⟨gb339, 0, none⟩ = some (.int .i64 x340000_3) := (blk_cell BK339.out 0).trans rfl
                        have hcz32_1 : wr.cell? ⟨gb339, 1, none⟩ = some (.int .i64 x340001_3) := (blk_cell BK339.out 1).trans rfl
                        have hcz32_2 : wr.cell? ⟨gb339, 2, none⟩ = some (.int .i64 x340002_3) := (blk_cell BK339.out 2).trans rfl
                        have hcz32_3 : wr.cell? ⟨gb339, 3, none⟩ = some (.int .i64 x340003_3) := (blk_cell BK339.out 3).trans rfl
                        have hcz32_4 : wr.cell? ⟨gb339, 4, none⟩ = some (.bool x340004_3) := (blk_cell BK339.out 4).trans rfl
                        have hfz32_0 := blk_frozen BK339.out 0
                        have hfz32_1 := blk_frozen BK339.out 1
                        have hfz32_2 := blk_frozen BK339.out 2
                        have hfz32_3 := blk_frozen BK339.out 3
                        have hfz32_4 := blk_frozen BK339.out 4
                        go_wp2_with (first | ((with_reducible refine gate_callee (f := 19) rfl ?_); refine goesL_ (some 60) rfl rfl Tryd.func19 (by kernel_rfl) rfl #[.agg #[.int .i64 a0_0, .int .i64 a0_1, .int .i64 a0_2], .agg #[.int .i64 x340000_3, .int .i64 x340001_3, .int .i64 x340002_3, .int .i64 x340003_3, .bool x340004_3]] rfl (by (try simp only [List.map_toArray, List.map_cons, List.map_nil]); first | done | rfl | (simp only [List.length_drop, List.length_take]; rfl)) ?_; (with_reducible refine (rto_Expire.calls a0_0 a0_1 a0_2 x340000_3 x340001_3 x340002_3 x340003_3 x340004_3 t343 t344 t345 t346 t347 _ ?side1 A29.out).mono ?_); (case side1 => exact Tied.below HG.out (by repeat (first | (with_reducible first | exact HB.out | apply below_alloc | apply pw_below_drewN | apply below_drew1 | refine below_set ?_ GE331.out | refine below_set ?_ GE339.out) | exact HB.out))); rintro e w33 ⟨rfl, hb⟩; refine ⟨_, rfl, ?_⟩; have n0_ := Aside0.mk (blk_below (g := gb331) (o := .cells #[.int .i64 a0_0, .int .i64 a0_1, .int .i64 a0_2] 23 (0, 0)) (by (with_reducible repeat (first | refine blk_drewN ?_ _ | refine blk_drew ?_ | refine blk_alloc ?_ _)); exact BK331.out) hb); have n1_ := Aside0.mk (blk_below (g := gb339) (o := .cells #[.int .i64 x340000_3, .int .i64 x340001_3, .int .i64 x340002_3, .int .i64 x340003_3, .bool x340004_3] 26 (0, 0)) (by (with_reducible repeat (first | refine blk_drewN ?_ _ | refine blk_drew ?_ | refine blk_alloc ?_ _)); exact BK339.out) hb); have n2_ := Aside0.mk (below_step (by repeat (first | (with_reducible first | exact HB.out | apply below_alloc | apply pw_below_drewN | apply below_drew1 | refine below_set ?_ GE331.out | refine below_set ?_ GE339.out) | exact HB.out)) hb); clear BK331; clear BK339; clear HB; have BK331 := n0_; have BK339 := n1_; have HB := n2_; clear n0_ n1_ n2_; (try clear hb); (try clear hb2); (try clear hk); (try clear hi); have hcz34_0 : w33.cell? ⟨gb339, 0, none⟩ = some (.int .i64 x340000_3) := (blk_cell BK339.out 0).trans rfl; have hcz34_1 : w33.cell? ⟨gb339, 1, none⟩ = some (.int .i64 x340001_3) := (blk_cell BK339.out 1).trans rfl; have hcz34_2 : w33.cell? ⟨gb339, 2, none⟩ = some (.int .i64 x340002_3) := (blk_cell BK339.out 2).trans rfl; have hcz34_3 : w33.cell? ⟨gb339, 3, none⟩ = some (.int .i64 x340003_3) := (blk_cell BK339.out 3).trans rfl; have hcz34_4 : w33.cell? ⟨gb339, 4, none⟩ = some (.bool x340004_3) := (blk_cell BK339.out 4).trans rfl; have hfz34_0 := blk_frozen BK339.out 0; have hfz34_1 := blk_frozen BK339.out 1; have hfz34_2 := blk_frozen BK339.out 2; have hfz34_3 := blk_frozen BK339.out 3; have hfz34_4 := blk_frozen BK339.out 4))
                        go_roundg k3
                        case measure => have := HJ7.out; have := HJ20.out; have := HK3.out; omega
                        case rel => exact ⟨(x13_3), (wrap64 (x14_3 + 1)), (t343), (t344), (t345), (t346), (t347), (by first | rfl | (simp; done) | (simp [*]; done)), (by first | rfl | (simp; done) | (simp [*]; done)), H', ⟨by have := HJ7.out; have := HJ20.out; have := HK3.out; omega⟩, ⟨by (with_reducible repeat (first | refine blk_drewN ?_ _ | refine blk_drew ?_ | refine blk_alloc ?_ _)); refine blk_far ?_ NB331_339.out _; (with_reducible repeat (first | refine blk_drewN ?_ _ | refine blk_drew ?_ | refine blk_alloc ?_ _)); refine blk_far ?_ NB331_339.out _; (with_reducible repeat (first | refine blk_drewN ?_ _ | refine blk_drew ?_ | refine blk_alloc ?_ _)); refine blk_far ?_ NB331_339.out _; (with_reducible repeat (first | refine blk_drewN ?_ _ | refine blk_drew ?_ | refine blk_alloc ?_ _)); refine blk_far ?_ NB331_339.out _; (with_reducible repeat (first | refine blk_drewN ?_ _ | refine blk_drew ?_ | refine blk_alloc ?_ _)); refine blk_far ?_ NB331_339.out _; (with_reducible repeat (first | refine blk_drewN ?_ _ | refine blk_drew ?_ | refine blk_alloc ?_ _)); exact BK331.out⟩, ⟨by (with_reducible repeat (first | refine blk_drewN ?_ _ | refine blk_drew ?_ | refine blk_alloc ?_ _)); refine blk_put (cs := #[.int .i64 t343, .int .i64 t344, .int .i64 t345, .int .i64 t346, .bool x340004_3]) ?_ 4 _ rfl; (with_reducible repeat (first | refine blk_drewN ?_ _ | refine blk_drew ?_ | refine blk_alloc ?_ _)); refine blk_put (cs := #[.int .i64 t343, .int .i64 t344, .int .i64 t345, .int .i64 x340003_3, .bool x340004_3]) ?_ 3 _ rfl; (with_reducible repeat (first | refine blk_drewN ?_ _ | refine blk_drew ?_ | refine blk_alloc ?_ _)); refine blk_put (cs := #[.int .i64 t343, .int .i64 t344, .int .i64 x340002_3, .int .i64 x340003_3, .bool x340004_3]) ?_ 2 _ rfl; (with_reducible repeat (first | refine blk_drewN ?_ _ | refine blk_drew ?_ | refine blk_alloc ?_ _)); refine blk_put (cs := #[.int .i64 t343, .int .i64 x340001_3, .int .i64 x340002_3, .int .i64 x340003_3, .bool x340004_3]) ?_ 1 _ rfl; (with_reducible repeat (first | refine blk_drewN ?_ _ | refine blk_drew ?_ | refine blk_alloc ?_ _)); refine blk_put (cs := #[.int .i64 x340000_3, .int .i64 x340001_3, .int .i64 x340002_3, .int .i64 x340003_3, .bool x340004_3]) ?_ 0 _ rfl; (with_reducible repeat (first | refine blk_drewN ?_ _ | refine blk_drew ?_ | refine blk_alloc ?_ _)); exact BK339.out⟩, ⟨by repeat (first | (with_reducible first | exact HB.out | apply below_alloc | apply pw_below_drewN | apply below_drew1 | refine below_set ?_ GE331.out | refine below_set ?_ GE339.out) | exact HB.out)⟩⟩
                      · rw [if_neg c28] at H
                        have c28b0 : decide ((rd l3 x14_3) < 0) = false := decide_eq_false c28
                        clear c28
                        by_cases c35 : (wrap64 ((wrap64 (a2 - a1)) + 1)) = 0
                        · rw [if_pos c35] at H
                          exact absurd H (by simp)
                        · rw [if_neg c35] at H
                          have c35b0 : ((wrap64 ((wrap64 (a2 - a1)) + 1)) == 0) = false := beq_eq_false_iff_ne.mpr c35
                          have c35b1 : ((wrap64 ((wrap64 (a2 - a1)) + 1)) != 0) = true := bne_iff_ne.mpr c35
                          replace H := Option.bind_eq_some_iff.mp H
                          obtain ⟨⟨t349, t350, t351, t352, t353⟩, A360, H⟩ := H
                          replace H : (if (wrap64 (Int.tdiv t349 8)) < a1 then (some false) else (if (wrap64 (Int.tdiv t349 8)) > a2 then (some false) else (if t350 > (wrap64 (4 * a2)) then (some false) else (if t350 < 0 then (some false) else (annexlaw17_RtoBetween.l0 k3 a1 a2 l3 true (wrap64 (x14_3 + 1)) a0_0 a0_1 a0_2 t349 t350 t351 t352 t353))))) = some r := H
                          have A36 := Aside0.mk A360
                          clear A360
                          by_cases c37 : (wrap64 (Int.tdiv t349 8)) < a1
                          · rw [if_pos c37] at H
                            have c37b0 : decide ((wrap64 (Int.tdiv t349 8)) < a1) = true := decide_eq_true c37
                            clear c37
                            obtain rfl := Option.some.inj H
                            have p342 : 0 ≤ (x14_3 : Int) := of_decide_eq_true (by first | (with_reducible assumption) | assumption)
                            have q342 : x14_3 < (l3.length : Int) := of_decide_eq_true (by first | (with_reducible assumption) | assumption)
                            obtain ⟨ad342, e342, hx342_0⟩ := Kd.at_int HR3.out x14_3 p342 q342
                            cases e342
                            replace hx342_0 := (HB.out.cell (World.block_lt_of_cell? w _ hx342_0)).trans hx342_0
                            replace p342 := eq_true p342
                            replace q342 := eq_true q342
                            try go_wp2
                            have n0_ := Aside0.mk (blk_drew BK331.out)
                            have n1_ := Aside0.mk (blk_drew BK339.out)
                            have n2_ := Aside0.mk (below_drew1 HB.out)
                            clear BK331
                            clear BK339
                            clear HB
                            have BK331 := n0_
                            have BK339 := n1_
                            have HB := n2_
                            clear n0_ n1_ n2_
                            have p348 : 0 ≤ (x14_3 : Int) := of_decide_eq_true (by first | (with_reducible assumption) | assumption)
                            have q348 : x14_3 < (l3.length : Int) := of_decide_eq_true (by first | (with_reducible assumption) | assumption)
                            obtain ⟨ad348, e348, hx348_0⟩ := Kd.at_int HR3.out x14_3 p348 q348
                            have hw348_0 := hx348_0
                            obtain rfl : ad342 = ad348 := (by injection e348)
                            replace hx348_0 := (HB.out.cell (World.block_lt_of_cell? w _ hx348_0)).trans hx348_0
                            replace p348 := eq_true p348
                            replace q348 := eq_true q348
                            refine start_ (n := 15) (S := fun w' => w'.cell? ⟨gb331, 0, none⟩ = some (.int .i64 a0_0) ∧ w'.cell? ⟨gb331, 1, none⟩ = some (.int .i64 a0_1) ∧ w'.cell? ⟨gb331, 2, none⟩ = some (.int .i64 a0_2) ∧ w'.cell? ⟨gb339, 0, none⟩ = some (.int .i64 x340000_3) ∧ w'.cell? ⟨gb339, 1, none⟩ = some (.int .i64 x340001_3) ∧ w'.cell? ⟨gb339, 2, none⟩ = some (.int .i64 x340002_3) ∧ w'.cell? ⟨gb339, 3, none⟩ = some (.int .i64 x340003_3) ∧ w'.cell? ⟨gb339, 4, none⟩ = some (.bool x340004_3) ∧ w'.cell? (ad342.add (x14_3).toNat) = some (.int .i64 (rd l3 x14_3))) (ds := [14]) #[false, false, false, false, false, false, false, false, false, false, false, false, false, false, false] (by kernel_rfl) rfl rfl ⟨(blk_cell BK331.out 0).trans rfl, (blk_cell BK331.out 1).trans rfl, (blk_cell BK331.out 2).trans rfl, (blk_cell BK339.out 0).trans rfl, (blk_cell BK339.out 1).trans rfl, (blk_cell BK339.out 2).trans rfl, (blk_cell BK339.out 3).trans rfl, (blk_cell BK339.out 4).trans rfl, ((HB.out.cell (World.block_lt_of_cell? w _ hw348_0)).trans hw348_0)⟩ (fun hHeld => ?_); refine with_tabW annexlaw17_RtoBetween.tab15 annexlaw17_RtoBetween.bits15 (fun HT_ HW_ => ?_)
                            generalize wr.drew = w38 at BK331 BK339 HB hx348_0 hHeld ⊢
                            refine pure_ (i := 2) (N := some 63) (v := ?_) (a' := ?_) #[false, false, true, false, false, false, false, false, false, false, false, false, false, false, false] rfl rfl (any_of HT_.out (by kernel_rfl)) (fun _ _ _ h => h) (Or.inl ⟨by rfl, ?_⟩) ?_ ?_
                            rotate_left
                            · intro w'
                              go_simp
                              with_reducible rfl
                            rotate_left
                            · simp only [Act.put, List.setIfInBounds_toArray, List.set_cons_zero, List.set_cons_succ, i64_w, i32_w]
                              rfl
                            refine pure_ (i := 3) (N := some 64) (v := ?_) (a' := ?_) #[false, false, true, true, false, false, false, false, false, false, false, false, false, false, false] rfl rfl (any_of HT_.out (by kernel_rfl)) (fun _ _ _ h => h) (Or.inl ⟨by rfl, ?_⟩) ?_ ?_
                            rotate_left
                            · intro w'
                              go_simp
                              with_reducible rfl
                            rotate_left
                            · simp only [Act.put, List.setIfInBounds_toArray, List.set_cons_zero, List.set_cons_succ, i64_w, i32_w]
                              rfl
                            refine pure_ (i := 4) (N := some 65) (v := ?_) (a' := ?_) #[false, false, true, true, true, false, false, false, false, false, false, false, false, false, false] rfl rfl (any_of HT_.out (by kernel_rfl)) (fun _ _ _ h => h) (Or.inl ⟨by rfl, ?_⟩) ?_ ?_
                            rotate_left
                            · intro w'
                              go_simp
                              with_reducible rfl
                            rotate_left
                            · simp only [Act.put, List.setIfInBounds_toArray, List.set_cons_zero, List.set_cons_succ, i64_w, i32_w]
                              rfl
                            refine pure_ (i := 5) (N := some 66) (v := ?_) (a' := ?_) #[false, false, true, true, true, true, false, false, false, false, false, false, false, false, false] rfl rfl (any_of HT_.out (by kernel_rfl)) (fun _ _ _ h => h) (Or.inl ⟨by rfl, ?_⟩) ?_ ?_
                            rotate_left
                            · intro w'
                              go_simp
                              with_reducible rfl
                            rotate_left
                            · simp only [Act.put, List.setIfInBounds_toArray, List.set_cons_zero, List.set_cons_succ, i64_w, i32_w]
                              rfl
                            refine pure_ (i := 7) (N := some 68) (v := ?_) (a' := ?_) #[false, false, true, true, true, true, false, true, false, false, false, false, false, false, false] rfl rfl (any_of HT_.out (by kernel_rfl)) (fun _ _ _ h => h) (Or.inl ⟨by rfl, ?_⟩) ?_ ?_
                            rotate_left
                            · intro w'
                              go_simp
                              with_reducible rfl
                            rotate_left
                            · simp only [Act.put, List.setIfInBounds_toArray, List.set_cons_zero, List.set_cons_succ, i64_w, i32_w]
                              rfl
                            refine pure_ (i := 8) (N := some 69) (v := ?_) (a' := ?_) #[false, false, true, true, true, true, false, true, true, false, false, false, false, false, false] rfl rfl (any_of HT_.out (by kernel_rfl)) (fun _ _ _ h => h) (Or.inl ⟨by rfl, ?_⟩) ?_ ?_
                            rotate_left
                            · intro w'
                              go_simp
                              with_reducible rfl
                            rotate_left
                            · simp only [Act.put, List.setIfInBounds_toArray, List.set_cons_zero, List.set_cons_succ, i64_w, i32_w]
                              rfl
                            refine pure_ (i := 9) (N := some 70) (v := ?_) (a' := ?_) #[false, false, true, true, true, true, false, true, true, true, false, false, false, false, false] rfl rfl (any_of HT_.out (by kernel_rfl)) (fun _ _ _ h => h) (Or.inl ⟨by rfl, ?_⟩) ?_ ?_
                            rotate_left
                            · intro w'
                              go_simp
                              with_reducible rfl
                            rotate_left
                            · simp only [Act.put, List.setIfInBounds_toArray, List.set_cons_zero, List.set_cons_succ, i64_w, i32_w]
                              rfl
                            refine pure_ (i := 10) (N := some 71) (v := ?_) (a' := ?_) #[false, false, true, true, true, true, false, true, true, true, true, false, false, false, false] rfl rfl (any_of HT_.out (by kernel_rfl)) (fun _ _ _ h => h) (Or.inl ⟨by rfl, ?_⟩) ?_ ?_
                            rotate_left
                            · intro w'
                              go_simp
                              with_reducible rfl
                            rotate_left
                            · simp only [Act.put, List.setIfInBounds_toArray, List.set_cons_zero, List.set_cons_succ, i64_w, i32_w]
                              rfl
                            refine take_ (i := 0) (N := some 61) (v := ?_) (a' := ?_) #[true, false, true, true, true, true, false, true, true, true, true, false, false, false, false] rfl rfl (take_ofW HT_.out HW_.out (by kernel_rfl)) (fun _ _ _ h => h) (Or.inl ⟨by rfl, ?_⟩) hHeld ?_ ?_
                            rotate_left
                            · rintro w' ⟨s0, s1, s2, s3, s4, s5, s6, s7, s8⟩
                              go_simp
                              with_reducible rfl
                            rotate_left
                            · simp only [Act.put, List.setIfInBounds_toArray, List.set_cons_zero, List.set_cons_succ, i64_w, i32_w]
                              rfl
                            refine take_ (i := 1) (N := some 62) (v := ?_) (a' := ?_) #[true, true, true, true, true, true, false, true, true, true, true, false, false, false, false] rfl rfl (take_ofW HT_.out HW_.out (by kernel_rfl)) (fun _ _ _ h => h) (Or.inl ⟨by rfl, ?_⟩) hHeld ?_ ?_
                            rotate_left
                            · rintro w' ⟨s0, s1, s2, s3, s4, s5, s6, s7, s8⟩
                              go_simp
                              with_reducible rfl
                            rotate_left
                            · simp only [Act.put, List.setIfInBounds_toArray, List.set_cons_zero, List.set_cons_succ, i64_w, i32_w]
                              rfl
                            refine take_ (i := 6) (N := some 67) (v := ?_) (a' := ?_) #[true, true, true, true, true, true, true, true, true, true, true, false, false, false, false] rfl rfl (take_ofW HT_.out HW_.out (by kernel_rfl)) (fun _ _ _ h => h) (Or.inl ⟨by rfl, ?_⟩) hHeld ?_ ?_
                            rotate_left
                            · rintro w' ⟨s0, s1, s2, s3, s4, s5, s6, s7, s8⟩
                              go_simp
                              with_reducible rfl
                            rotate_left
                            · simp only [Act.put, List.setIfInBounds_toArray, List.set_cons_zero, List.set_cons_succ, i64_w, i32_w]
                              rfl
                            refine pure_ (i := 11) (N := some 72) (v := ?_) (a' := ?_) #[true, true, true, true, true, true, true, true, true, true, true, true, false, false, false] rfl rfl (any_of HT_.out (by kernel_rfl)) (fun _ _ _ h => h) (Or.inl ⟨by rfl, ?_⟩) ?_ ?_
                            rotate_left
                            · intro w'
                              go_simp
                              with_reducible rfl
                            rotate_left
                            · simp only [Act.put, List.setIfInBounds_toArray, List.set_cons_zero, List.set_cons_succ, i64_w, i32_w]
                              rfl
                            refine pure_ (i := 12) (N := some 73) (v := ?_) (a' := ?_) #[true, true, true, true, true, true, true, true, true, true, true, true, true, false, false] rfl rfl (any_of HT_.out (by kernel_rfl)) (fun _ _ _ h => h) (Or.inl ⟨by rfl, ?_⟩) ?_ ?_
                            rotate_left
                            · intro w'
                              go_simp
                              with_reducible rfl
                            rotate_left
                            · simp only [Act.put, List.setIfInBounds_toArray, List.set_cons_zero, List.set_cons_succ, i64_w, i32_w]
                              rfl
                            refine one_ (i := 13) (N := some 74) #[true, true, true, true, true, true, true, true, true, true, true, true, true, true, false] rfl rfl (one_of HT_.out (by kernel_rfl)) (by decide) (fun K hK => ?_)
                            refine goes_ Tryd.func17 (by kernel_rfl) rfl #[.agg #[.int .i64 a0_0, .int .i64 a0_1, .int .i64 a0_2], .agg #[.int .i64 x340000_3, .int .i64 x340001_3, .int .i64 x340002_3, .int .i64 x340003_3, .bool x340004_3], .int .i64 (wrap64 (a1 + (Int.tmod (rd l3 x14_3) (wrap64 ((wrap64 (a2 - a1)) + 1)))))] (by rfl) rfl rfl (by (try simp only [List.map_toArray, List.map_cons, List.map_nil]); first | done | rfl | (simp only [List.length_drop, List.length_take]; rfl)) ?_
                            with_reducible refine (rto_Sample.calls a0_0 a0_1 a0_2 x340000_3 x340001_3 x340002_3 x340003_3 x340004_3 (wrap64 (a1 + (Int.tmod (rd l3 x14_3) (wrap64 ((wrap64 (a2 - a1)) + 1))))) t349 t350 t351 t352 t353 _ ?side1 A36.out).mono ?_
                            (case side1 => exact Tied.below HG.out (by repeat (first | (with_reducible first | exact HB.out | apply below_alloc | apply pw_below_drewN | apply below_drew1 | refine below_set ?_ GE331.out | refine below_set ?_ GE339.out) | exact HB.out)))
                            rintro e w39 ⟨rfl, hb⟩
                            refine ⟨_, rfl, ?_⟩
                            have n0_ := Aside0.mk (blk_below (g := gb331) (o := .cells #[.int .i64 a0_0, .int .i64 a0_1, .int .i64 a0_2] 23 (0, 0)) (by (with_reducible repeat (first | refine blk_drewN ?_ _ | refine blk_drew ?_ | refine blk_alloc ?_ _)); exact BK331.out) hb)
                            have n1_ := Aside0.mk (blk_below (g := gb339) (o := .cells #[.int .i64 x340000_3, .int .i64 x340001_3, .int .i64 x340002_3, .int .i64 x340003_3, .bool x340004_3] 26 (0, 0)) (by (with_reducible repeat (first | refine blk_drewN ?_ _ | refine blk_drew ?_ | refine blk_alloc ?_ _)); exact BK339.out) hb)
                            have n2_ := Aside0.mk (below_step (by repeat (first | (with_reducible first | exact HB.out | apply below_alloc | apply pw_below_drewN | apply below_drew1 | refine below_set ?_ GE331.out | refine below_set ?_ GE339.out) | exact HB.out)) hb)
                            clear BK331
                            clear BK339
                            clear HB
                            have BK331 := n0_
                            have BK339 := n1_
                            have HB := n2_
                            clear n0_ n1_ n2_
                            (try clear hb)
                            (try clear hb2)
                            (try clear hk)
                            (try clear hi)
                            refine hK.out _ _ ⟨(blk_cell BK331.out 0).trans rfl, (blk_cell BK331.out 1).trans rfl, (blk_cell BK331.out 2).trans rfl, (blk_cell BK339.out 0).trans rfl, (blk_cell BK339.out 1).trans rfl, (blk_cell BK339.out 2).trans rfl, (blk_cell BK339.out 3).trans rfl, (blk_cell BK339.out 4).trans rfl, ((HB.out.cell (World.block_lt_of_cell? w _ hw348_0)).trans hw348_0)⟩ (fun hHeld => ?_)
                            clear hK K
                            refine norm_ (a' := ?_) ?_ ?_
                            rotate_left
                            · show Act.put _ (some 74) _ = _
                              simp only [Act.put, List.setIfInBounds_toArray, List.set_cons_zero, List.set_cons_succ, i64_w, i32_w]
                              rfl
                            refine last_ (i := 14) (N := none) #[true, true, true, true, true, true, true, true, true, true, true, true, true, true, true] rfl rfl (one_of HT_.out (by kernel_rfl)) (by decide) (fun K hK => ?_)
                            have hs40 : w39.cell? ⟨gb339, 0, none⟩ = some (.int .i64 x340000_3) := (blk_cell BK339.out 0).trans rfl
                            have hfs40 := blk_frozen BK339.out 0
                            have hns40_0 := NB331_339.out
                            have hms40_0 := NB339_331.out
                            have hs41 : w39.cell? ⟨gb339, 1, none⟩ = some (.int .i64 x340001_3) := (blk_cell BK339.out 1).trans rfl
                            have hfs41 := blk_frozen BK339.out 1
                            have hns41_0 := NB331_339.out
                            have hms41_0 := NB339_331.out
                            have hs42 : w39.cell? ⟨gb339, 2, none⟩ = some (.int .i64 x340002_3) := (blk_cell BK339.out 2).trans rfl
                            have hfs42 := blk_frozen BK339.out 2
                            have hns42_0 := NB331_339.out
                            have hms42_0 := NB339_331.out
                            have hs43 : w39.cell? ⟨gb339, 3, none⟩ = some (.int .i64 x340003_3) := (blk_cell BK339.out 3).trans rfl
                            have hfs43 := blk_frozen BK339.out 3
                            have hns43_0 := NB331_339.out
                            have hms43_0 := NB339_331.out
                            have hs44 : w39.cell? ⟨gb339, 4, none⟩ = some (.bool x340004_3) := (blk_cell BK339.out 4).trans rfl
                            have hfs44 := blk_frozen BK339.out 4
                            have hns44_0 := NB331_339.out
                            have hms44_0 := NB339_331.out
                            refine skip_ (w1 := ?_) (by rfl) rfl ?_ ?_
                            rotate_left
                            · go_simp
                              rfl
                            refine hK.out _ _ ?_
                            clear hK K
                            refine done_ (done_of HT_.out (by kernel_rfl)) ?_
                            have hnb45 := NB339_331.out
                            have hnc45 := NB331_339.out
                            have hcz46_0 : w39.cell? ⟨gb339, 0, none⟩ = some (.int .i64 x340000_3) := (blk_cell BK339.out 0).trans rfl
                            have hcz46_1 : w39.cell? ⟨gb339, 1, none⟩ = some (.int .i64 x340001_3) := (blk_cell BK339.out 1).trans rfl
                            have hcz46_2 : w39.cell? ⟨gb339, 2, none⟩ = some (.int .i64 x340002_3) := (blk_cell BK339.out 2).trans rfl
                            have hcz46_3 : w39.cell? ⟨gb339, 3, none⟩ = some (.int .i64 x340003_3) := (blk_cell BK339.out 3).trans rfl
                            have hcz46_4 : w39.cell? ⟨gb339, 4, none⟩ = some (.bool x340004_3) := (blk_cell BK339.out 4).trans rfl
                            have hfz46_0 := blk_frozen BK339.out 0
                            have hfz46_1 := blk_frozen BK339.out 1
                            have hfz46_2 := blk_frozen BK339.out 2
                            have hfz46_3 := blk_frozen BK339.out 3
                            have hfz46_4 := blk_frozen BK339.out 4
                            try go_wp2
                            go_ret
                            exact ⟨by first | rfl | (simp [errW_none, errW_some] <;> rfl) | (simp [*, errW_none, errW_some] <;> rfl), by repeat (first | (with_reducible first | exact HB.out | apply below_alloc | apply pw_below_drewN | apply below_drew1 | refine below_set ?_ GE331.out | refine below_set ?_ GE339.out) | exact HB.out)⟩
                          · rw [if_neg c37] at H
                            have c37b0 : decide ((wrap64 (Int.tdiv t349 8)) < a1) = false := decide_eq_false c37
                            clear c37
                            by_cases c47 : (wrap64 (Int.tdiv t349 8)) > a2
                            · rw [if_pos c47] at H
                              have c47b0 : decide (a2 < (wrap64 (Int.tdiv t349 8))) = true := decide_eq_true c47
                              clear c47
                              obtain rfl := Option.some.inj H
                              have p342 : 0 ≤ (x14_3 : Int) := of_decide_eq_true (by first | (with_reducible assumption) | assumption)
                              have q342 : x14_3 < (l3.length : Int) := of_decide_eq_true (by first | (with_reducible assumption) | assumption)
                              obtain ⟨ad342, e342, hx342_0⟩ := Kd.at_int HR3.out x14_3 p342 q342
                              cases e342
                              replace hx342_0 := (HB.out.cell (World.block_lt_of_cell? w _ hx342_0)).trans hx342_0
                              replace p342 := eq_true p342
                              replace q342 := eq_true q342
                              try go_wp2
                              have n0_ := Aside0.mk (blk_drew BK331.out)
                              have n1_ := Aside0.mk (blk_drew BK339.out)
                              have n2_ := Aside0.mk (below_drew1 HB.out)
                              clear BK331
                              clear BK339
                              clear HB
                              have BK331 := n0_
                              have BK339 := n1_
                              have HB := n2_
                              clear n0_ n1_ n2_
                              have p348 : 0 ≤ (x14_3 : Int) := of_decide_eq_true (by first | (with_reducible assumption) | assumption)
                              have q348 : x14_3 < (l3.length : Int) := of_decide_eq_true (by first | (with_reducible assumption) | assumption)
                              obtain ⟨ad348, e348, hx348_0⟩ := Kd.at_int HR3.out x14_3 p348 q348
                              have hw348_0 := hx348_0
                              obtain rfl : ad342 = ad348 := (by injection e348)
                              replace hx348_0 := (HB.out.cell (World.block_lt_of_cell? w _ hx348_0)).trans hx348_0
                              replace p348 := eq_true p348
                              replace q348 := eq_true q348
                              refine start_ (n := 15) (S := fun w' => w'.cell? ⟨gb331, 0, none⟩ = some (.int .i64 a0_0) ∧ w'.cell? ⟨gb331, 1, none⟩ = some (.int .i64 a0_1) ∧ w'.cell? ⟨gb331, 2, none⟩ = some (.int .i64 a0_2) ∧ w'.cell? ⟨gb339, 0, none⟩ = some (.int .i64 x340000_3) ∧ w'.cell? ⟨gb339, 1, none⟩ = some (.int .i64 x340001_3) ∧ w'.cell? ⟨gb339, 2, none⟩ = some (.int .i64 x340002_3) ∧ w'.cell? ⟨gb339, 3, none⟩ = some (.int .i64 x340003_3) ∧ w'.cell? ⟨gb339, 4, none⟩ = some (.bool x340004_3) ∧ w'.cell? (ad342.add (x14_3).toNat) = some (.int .i64 (rd l3 x14_3))) (ds := [14]) #[false, false, false, false, false, false, false, false, false, false, false, false, false, false, false] (by kernel_rfl) rfl rfl ⟨(blk_cell BK331.out 0).trans rfl, (blk_cell BK331.out 1).trans rfl, (blk_cell BK331.out 2).trans rfl, (blk_cell BK339.out 0).trans rfl, (blk_cell BK339.out 1).trans rfl, (blk_cell BK339.out 2).trans rfl, (blk_cell BK339.out 3).trans rfl, (blk_cell BK339.out 4).trans rfl, ((HB.out.cell (World.block_lt_of_cell? w _ hw348_0)).trans hw348_0)⟩ (fun hHeld => ?_); refine with_tabW annexlaw17_RtoBetween.tab15 annexlaw17_RtoBetween.bits15 (fun HT_ HW_ => ?_)
                              generalize wr.drew = w48 at BK331 BK339 HB hx348_0 hHeld ⊢
                              refine pure_ (i := 2) (N := some 63) (v := ?_) (a' := ?_) #[false, false, true, false, false, false, false, false, false, false, false, false, false, false, false] rfl rfl (any_of HT_.out (by kernel_rfl)) (fun _ _ _ h => h) (Or.inl ⟨by rfl, ?_⟩) ?_ ?_
                              rotate_left
                              · intro w'
                                go_simp
                                with_reducible rfl
                              rotate_left
                              · simp only [Act.put, List.setIfInBounds_toArray, List.set_cons_zero, List.set_cons_succ, i64_w, i32_w]
                                rfl
                              refine pure_ (i := 3) (N := some 64) (v := ?_) (a' := ?_) #[false, false, true, true, false, false, false, false, false, false, false, false, false, false, false] rfl rfl (any_of HT_.out (by kernel_rfl)) (fun _ _ _ h => h) (Or.inl ⟨by rfl, ?_⟩) ?_ ?_
                              rotate_left
                              · intro w'
                                go_simp
                                with_reducible rfl
                              rotate_left
                              · simp only [Act.put, List.setIfInBounds_toArray, List.set_cons_zero, List.set_cons_succ, i64_w, i32_w]
                                rfl
                              refine pure_ (i := 4) (N := some 65) (v := ?_) (a' := ?_) #[false, false, true, true, true, false, false, false, false, false, false, false, false, false, false] rfl rfl (any_of HT_.out (by kernel_rfl)) (fun _ _ _ h => h) (Or.inl ⟨by rfl, ?_⟩) ?_ ?_
                              rotate_left
                              · intro w'
                                go_simp
                                with_reducible rfl
                              rotate_left
                              · simp only [Act.put, List.setIfInBounds_toArray, List.set_cons_zero, List.set_cons_succ, i64_w, i32_w]
                                rfl
                              refine pure_ (i := 5) (N := some 66) (v := ?_) (a' := ?_) #[false, false, true, true, true, true, false, false, false, false, false, false, false, false, false] rfl rfl (any_of HT_.out (by kernel_rfl)) (fun _ _ _ h => h) (Or.inl ⟨by rfl, ?_⟩) ?_ ?_
                              rotate_left
                              · intro w'
                                go_simp
                                with_reducible rfl
                              rotate_left
                              · simp only [Act.put, List.setIfInBounds_toArray, List.set_cons_zero, List.set_cons_succ, i64_w, i32_w]
                                rfl
                              refine pure_ (i := 7) (N := some 68) (v := ?_) (a' := ?_) #[false, false, true, true, true, true, false, true, false, false, false, false, false, false, false] rfl rfl (any_of HT_.out (by kernel_rfl)) (fun _ _ _ h => h) (Or.inl ⟨by rfl, ?_⟩) ?_ ?_
                              rotate_left
                              · intro w'
                                go_simp
                                with_reducible rfl
                              rotate_left
                              · simp only [Act.put, List.setIfInBounds_toArray, List.set_cons_zero, List.set_cons_succ, i64_w, i32_w]
                                rfl
                              refine pure_ (i := 8) (N := some 69) (v := ?_) (a' := ?_) #[false, false, true, true, true, true, false, true, true, false, false, false, false, false, false] rfl rfl (any_of HT_.out (by kernel_rfl)) (fun _ _ _ h => h) (Or.inl ⟨by rfl, ?_⟩) ?_ ?_
                              rotate_left
                              · intro w'
                                go_simp
                                with_reducible rfl
                              rotate_left
                              · simp only [Act.put, List.setIfInBounds_toArray, List.set_cons_zero, List.set_cons_succ, i64_w, i32_w]
                                rfl
                              refine pure_ (i := 9) (N := some 70) (v := ?_) (a' := ?_) #[false, false, true, true, true, true, false, true, true, true, false, false, false, false, false] rfl rfl (any_of HT_.out (by kernel_rfl)) (fun _ _ _ h => h) (Or.inl ⟨by rfl, ?_⟩) ?_ ?_
                              rotate_left
                              · intro w'
                                go_simp
                                with_reducible rfl
                              rotate_left
                              · simp only [Act.put, List.setIfInBounds_toArray, List.set_cons_zero, List.set_cons_succ, i64_w, i32_w]
                                rfl
                              refine pure_ (i := 10) (N := some 71) (v := ?_) (a' := ?_) #[false, false, true, true, true, true, false, true, true, true, true, false, false, false, false] rfl rfl (any_of HT_.out (by kernel_rfl)) (fun _ _ _ h => h) (Or.inl ⟨by rfl, ?_⟩) ?_ ?_
                              rotate_left
                              · intro w'
                                go_simp
                                with_reducible rfl
                              rotate_left
                              · simp only [Act.put, List.setIfInBounds_toArray, List.set_cons_zero, List.set_cons_succ, i64_w, i32_w]
                                rfl
                              refine take_ (i := 0) (N := some 61) (v := ?_) (a' := ?_) #[true, false, true, true, true, true, false, true, true, true, true, false, false, false, false] rfl rfl (take_ofW HT_.out HW_.out (by kernel_rfl)) (fun _ _ _ h => h) (Or.inl ⟨by rfl, ?_⟩) hHeld ?_ ?_
                              rotate_left
                              · rintro w' ⟨s0, s1, s2, s3, s4, s5, s6, s7, s8⟩
                                go_simp
                                with_reducible rfl
                              rotate_left
                              · simp only [Act.put, List.setIfInBounds_toArray, List.set_cons_zero, List.set_cons_succ, i64_w, i32_w]
                                rfl
                              refine take_ (i := 1) (N := some 62) (v := ?_) (a' := ?_) #[true, true, true, true, true, true, false, true, true, true, true, false, false, false, false] rfl rfl (take_ofW HT_.out HW_.out (by kernel_rfl)) (fun _ _ _ h => h) (Or.inl ⟨by rfl, ?_⟩) hHeld ?_ ?_
                              rotate_left
                              · rintro w' ⟨s0, s1, s2, s3, s4, s5, s6, s7, s8⟩
                                go_simp
                                with_reducible rfl
                              rotate_left
                              · simp only [Act.put, List.setIfInBounds_toArray, List.set_cons_zero, List.set_cons_succ, i64_w, i32_w]
                                rfl
                              refine take_ (i := 6) (N := some 67) (v := ?_) (a' := ?_) #[true, true, true, true, true, true, true, true, true, true, true, false, false, false, false] rfl rfl (take_ofW HT_.out HW_.out (by kernel_rfl)) (fun _ _ _ h => h) (Or.inl ⟨by rfl, ?_⟩) hHeld ?_ ?_
                              rotate_left
                              · rintro w' ⟨s0, s1, s2, s3, s4, s5, s6, s7, s8⟩
                                go_simp
                                with_reducible rfl
                              rotate_left
                              · simp only [Act.put, List.setIfInBounds_toArray, List.set_cons_zero, List.set_cons_succ, i64_w, i32_w]
                                rfl
                              refine pure_ (i := 11) (N := some 72) (v := ?_) (a' := ?_) #[true, true, true, true, true, true, true, true, true, true, true, true, false, false, false] rfl rfl (any_of HT_.out (by kernel_rfl)) (fun _ _ _ h => h) (Or.inl ⟨by rfl, ?_⟩) ?_ ?_
                              rotate_left
                              · intro w'
                                go_simp
                                with_reducible rfl
                              rotate_left
                              · simp only [Act.put, List.setIfInBounds_toArray, List.set_cons_zero, List.set_cons_succ, i64_w, i32_w]
                                rfl
                              refine pure_ (i := 12) (N := some 73) (v := ?_) (a' := ?_) #[true, true, true, true, true, true, true, true, true, true, true, true, true, false, false] rfl rfl (any_of HT_.out (by kernel_rfl)) (fun _ _ _ h => h) (Or.inl ⟨by rfl, ?_⟩) ?_ ?_
                              rotate_left
                              · intro w'
                                go_simp
                                with_reducible rfl
                              rotate_left
                              · simp only [Act.put, List.setIfInBounds_toArray, List.set_cons_zero, List.set_cons_succ, i64_w, i32_w]
                                rfl
                              refine one_ (i := 13) (N := some 74) #[true, true, true, true, true, true, true, true, true, true, true, true, true, true, false] rfl rfl (one_of HT_.out (by kernel_rfl)) (by decide) (fun K hK => ?_)
                              refine goes_ Tryd.func17 (by kernel_rfl) rfl #[.agg #[.int .i64 a0_0, .int .i64 a0_1, .int .i64 a0_2], .agg #[.int .i64 x340000_3, .int .i64 x340001_3, .int .i64 x340002_3, .int .i64 x340003_3, .bool x340004_3], .int .i64 (wrap64 (a1 + (Int.tmod (rd l3 x14_3) (wrap64 ((wrap64 (a2 - a1)) + 1)))))] (by rfl) rfl rfl (by (try simp only [List.map_toArray, List.map_cons, List.map_nil]); first | done | rfl | (simp only [List.length_drop, List.length_take]; rfl)) ?_
                              with_reducible refine (rto_Sample.calls a0_0 a0_1 a0_2 x340000_3 x340001_3 x340002_3 x340003_3 x340004_3 (wrap64 (a1 + (Int.tmod (rd l3 x14_3) (wrap64 ((wrap64 (a2 - a1)) + 1))))) t349 t350 t351 t352 t353 _ ?side1 A36.out).mono ?_
                              (case side1 => exact Tied.below HG.out (by repeat (first | (with_reducible first | exact HB.out | apply below_alloc | apply pw_below_drewN | apply below_drew1 | refine below_set ?_ GE331.out | refine below_set ?_ GE339.out) | exact HB.out)))
                              rintro e w49 ⟨rfl, hb⟩
                              refine ⟨_, rfl, ?_⟩
                              have n0_ := Aside0.mk (blk_below (g := gb331) (o := .cells #[.int .i64 a0_0, .int .i64 a0_1, .int .i64 a0_2] 23 (0, 0)) (by (with_reducible repeat (first | refine blk_drewN ?_ _ | refine blk_drew ?_ | refine blk_alloc ?_ _)); exact BK331.out) hb)
                              have n1_ := Aside0.mk (blk_below (g := gb339) (o := .cells #[.int .i64 x340000_3, .int .i64 x340001_3, .int .i64 x340002_3, .int .i64 x340003_3, .bool x340004_3] 26 (0, 0)) (by (with_reducible repeat (first | refine blk_drewN ?_ _ | refine blk_drew ?_ | refine blk_alloc ?_ _)); exact BK339.out) hb)
                              have n2_ := Aside0.mk (below_step (by repeat (first | (with_reducible first | exact HB.out | apply below_alloc | apply pw_below_drewN | apply below_drew1 | refine below_set ?_ GE331.out | refine below_set ?_ GE339.out) | exact HB.out)) hb)
                              clear BK331
                              clear BK339
                              clear HB
                              have BK331 := n0_
                              have BK339 := n1_
                              have HB := n2_
                              clear n0_ n1_ n2_
                              (try clear hb)
                              (try clear hb2)
                              (try clear hk)
                              (try clear hi)
                              refine hK.out _ _ ⟨(blk_cell BK331.out 0).trans rfl, (blk_cell BK331.out 1).trans rfl, (blk_cell BK331.out 2).trans rfl, (blk_cell BK339.out 0).trans rfl, (blk_cell BK339.out 1).trans rfl, (blk_cell BK339.out 2).trans rfl, (blk_cell BK339.out 3).trans rfl, (blk_cell BK339.out 4).trans rfl, ((HB.out.cell (World.block_lt_of_cell? w _ hw348_0)).trans hw348_0)⟩ (fun hHeld => ?_)
                              clear hK K
                              refine norm_ (a' := ?_) ?_ ?_
                              rotate_left
                              · show Act.put _ (some 74) _ = _
                                simp only [Act.put, List.setIfInBounds_toArray, List.set_cons_zero, List.set_cons_succ, i64_w, i32_w]
                                rfl
                              refine last_ (i := 14) (N := none) #[true, true, true, true, true, true, true, true, true, true, true, true, true, true, true] rfl rfl (one_of HT_.out (by kernel_rfl)) (by decide) (fun K hK => ?_)
                              have hs50 : w49.cell? ⟨gb339, 0, none⟩ = some (.int .i64 x340000_3) := (blk_cell BK339.out 0).trans rfl
                              have hfs50 := blk_frozen BK339.out 0
                              have hns50_0 := NB331_339.out
                              have hms50_0 := NB339_331.out
                              have hs51 : w49.cell? ⟨gb339, 1, none⟩ = some (.int .i64 x340001_3) := (blk_cell BK339.out 1).trans rfl
                              have hfs51 := blk_frozen BK339.out 1
                              have hns51_0 := NB331_339.out
                              have hms51_0 := NB339_331.out
                              have hs52 : w49.cell? ⟨gb339, 2, none⟩ = some (.int .i64 x340002_3) := (blk_cell BK339.out 2).trans rfl
                              have hfs52 := blk_frozen BK339.out 2
                              have hns52_0 := NB331_339.out
                              have hms52_0 := NB339_331.out
                              have hs53 : w49.cell? ⟨gb339, 3, none⟩ = some (.int .i64 x340003_3) := (blk_cell BK339.out 3).trans rfl
                              have hfs53 := blk_frozen BK339.out 3
                              have hns53_0 := NB331_339.out
                              have hms53_0 := NB339_331.out
                              have hs54 : w49.cell? ⟨gb339, 4, none⟩ = some (.bool x340004_3) := (blk_cell BK339.out 4).trans rfl
                              have hfs54 := blk_frozen BK339.out 4
                              have hns54_0 := NB331_339.out
                              have hms54_0 := NB339_331.out
                              refine skip_ (w1 := ?_) (by rfl) rfl ?_ ?_
                              rotate_left
                              · go_simp
                                rfl
                              refine hK.out _ _ ?_
                              clear hK K
                              refine done_ (done_of HT_.out (by kernel_rfl)) ?_
                              have hnb55 := NB339_331.out
                              have hnc55 := NB331_339.out
                              have hcz56_0 : w49.cell? ⟨gb339, 0, none⟩ = some (.int .i64 x340000_3) := (blk_cell BK339.out 0).trans rfl
                              have hcz56_1 : w49.cell? ⟨gb339, 1, none⟩ = some (.int .i64 x340001_3) := (blk_cell BK339.out 1).trans rfl
                              have hcz56_2 : w49.cell? ⟨gb339, 2, none⟩ = some (.int .i64 x340002_3) := (blk_cell BK339.out 2).trans rfl
                              have hcz56_3 : w49.cell? ⟨gb339, 3, none⟩ = some (.int .i64 x340003_3) := (blk_cell BK339.out 3).trans rfl
                              have hcz56_4 : w49.cell? ⟨gb339, 4, none⟩ = some (.bool x340004_3) := (blk_cell BK339.out 4).trans rfl
                              have hfz56_0 := blk_frozen BK339.out 0
                              have hfz56_1 := blk_frozen BK339.out 1
                              have hfz56_2 := blk_frozen BK339.out 2
                              have hfz56_3 := blk_frozen BK339.out 3
                              have hfz56_4 := blk_frozen BK339.out 4
                              try go_wp2
                              go_ret
                              exact ⟨by first | rfl | (simp [errW_none, errW_some] <;> rfl) | (simp [*, errW_none, errW_some] <;> rfl), by repeat (first | (with_reducible first | exact HB.out | apply below_alloc | apply pw_below_drewN | apply below_drew1 | refine below_set ?_ GE331.out | refine below_set ?_ GE339.out) | exact HB.out)⟩
                            · rw [if_neg c47] at H
                              have c47b0 : decide (a2 < (wrap64 (Int.tdiv t349 8))) = false := decide_eq_false c47
                              clear c47
                              by_cases c57 : t350 > (wrap64 (4 * a2))
                              · rw [if_pos c57] at H
                                have c57b0 : decide ((wrap64 (4 * a2)) < t350) = true := decide_eq_true c57
                                clear c57
                                obtain rfl := Option.some.inj H
                                have p342 : 0 ≤ (x14_3 : Int) := of_decide_eq_true (by first | (with_reducible assumption) | assumption)
                                have q342 : x14_3 < (l3.length : Int) := of_decide_eq_true (by first | (with_reducible assumption) | assumption)
                                obtain ⟨ad342, e342, hx342_0⟩ := Kd.at_int HR3.out x14_3 p342 q342
                                cases e342
                                replace hx342_0 := (HB.out.cell (World.block_lt_of_cell? w _ hx342_0)).trans hx342_0
                                replace p342 := eq_true p342
                                replace q342 := eq_true q342
                                try go_wp2
                                have n0_ := Aside0.mk (blk_drew BK331.out)
                                have n1_ := Aside0.mk (blk_drew BK339.out)
                                have n2_ := Aside0.mk (below_drew1 HB.out)
                                clear BK331
                                clear BK339
                                clear HB
                                have BK331 := n0_
                                have BK339 := n1_
                                have HB := n2_
                                clear n0_ n1_ n2_
                                have p348 : 0 ≤ (x14_3 : Int) := of_decide_eq_true (by first | (with_reducible assumption) | assumption)
                                have q348 : x14_3 < (l3.length : Int) := of_decide_eq_true (by first | (with_reducible assumption) | assumption)
                                obtain ⟨ad348, e348, hx348_0⟩ := Kd.at_int HR3.out x14_3 p348 q348
                                have hw348_0 := hx348_0
                                obtain rfl : ad342 = ad348 := (by injection e348)
                                replace hx348_0 := (HB.out.cell (World.block_lt_of_cell? w _ hx348_0)).trans hx348_0
                                replace p348 := eq_true p348
                                replace q348 := eq_true q348
                                refine start_ (n := 15) (S := fun w' => w'.cell? ⟨gb331, 0, none⟩ = some (.int .i64 a0_0) ∧ w'.cell? ⟨gb331, 1, none⟩ = some (.int .i64 a0_1) ∧ w'.cell? ⟨gb331, 2, none⟩ = some (.int .i64 a0_2) ∧ w'.cell? ⟨gb339, 0, none⟩ = some (.int .i64 x340000_3) ∧ w'.cell? ⟨gb339, 1, none⟩ = some (.int .i64 x340001_3) ∧ w'.cell? ⟨gb339, 2, none⟩ = some (.int .i64 x340002_3) ∧ w'.cell? ⟨gb339, 3, none⟩ = some (.int .i64 x340003_3) ∧ w'.cell? ⟨gb339, 4, none⟩ = some (.bool x340004_3) ∧ w'.cell? (ad342.add (x14_3).toNat) = some (.int .i64 (rd l3 x14_3))) (ds := [14]) #[false, false, false, false, false, false, false, false, false, false, false, false, false, false, false] (by kernel_rfl) rfl rfl ⟨(blk_cell BK331.out 0).trans rfl, (blk_cell BK331.out 1).trans rfl, (blk_cell BK331.out 2).trans rfl, (blk_cell BK339.out 0).trans rfl, (blk_cell BK339.out 1).trans rfl, (blk_cell BK339.out 2).trans rfl, (blk_cell BK339.out 3).trans rfl, (blk_cell BK339.out 4).trans rfl, ((HB.out.cell (World.block_lt_of_cell? w _ hw348_0)).trans hw348_0)⟩ (fun hHeld => ?_); refine with_tabW annexlaw17_RtoBetween.tab15 annexlaw17_RtoBetween.bits15 (fun HT_ HW_ => ?_)
                                generalize wr.drew = w58 at BK331 BK339 HB hx348_0 hHeld ⊢
                                refine pure_ (i := 2) (N := some 63) (v := ?_) (a' := ?_) #[false, false, true, false, false, false, false, false, false, false, false, false, false, false, false] rfl rfl (any_of HT_.out (by kernel_rfl)) (fun _ _ _ h => h) (Or.inl ⟨by rfl, ?_⟩) ?_ ?_
                                rotate_left
                                · intro w'
                                  go_simp
                                  with_reducible rfl
                                rotate_left
                                · simp only [Act.put, List.setIfInBounds_toArray, List.set_cons_zero, List.set_cons_succ, i64_w, i32_w]
                                  rfl
                                refine pure_ (i := 3) (N := some 64) (v := ?_) (a' := ?_) #[false, false, true, true, false, false, false, false, false, false, false, false, false, false, false] rfl rfl (any_of HT_.out (by kernel_rfl)) (fun _ _ _ h => h) (Or.inl ⟨by rfl, ?_⟩) ?_ ?_
                                rotate_left
                                · intro w'
                                  go_simp
                                  with_reducible rfl
                                rotate_left
                                · simp only [Act.put, List.setIfInBounds_toArray, List.set_cons_zero, List.set_cons_succ, i64_w, i32_w]
                                  rfl
                                refine pure_ (i := 4) (N := some 65) (v := ?_) (a' := ?_) #[false, false, true, true, true, false, false, false, false, false, false, false, false, false, false] rfl rfl (any_of HT_.out (by kernel_rfl)) (fun _ _ _ h => h) (Or.inl ⟨by rfl, ?_⟩) ?_ ?_
                                rotate_left
                                · intro w'
                                  go_simp
                                  with_reducible rfl
                                rotate_left
                                · simp only [Act.put, List.setIfInBounds_toArray, List.set_cons_zero, List.set_cons_succ, i64_w, i32_w]
                                  rfl
                                refine pure_ (i := 5) (N := some 66) (v := ?_) (a' := ?_) #[false, false, true, true, true, true, false, false, false, false, false, false, false, false, false] rfl rfl (any_of HT_.out (by kernel_rfl)) (fun _ _ _ h => h) (Or.inl ⟨by rfl, ?_⟩) ?_ ?_
                                rotate_left
                                · intro w'
                                  go_simp
                                  with_reducible rfl
                                rotate_left
                                · simp only [Act.put, List.setIfInBounds_toArray, List.set_cons_zero, List.set_cons_succ, i64_w, i32_w]
                                  rfl
                                refine pure_ (i := 7) (N := some 68) (v := ?_) (a' := ?_) #[false, false, true, true, true, true, false, true, false, false, false, false, false, false, false] rfl rfl (any_of HT_.out (by kernel_rfl)) (fun _ _ _ h => h) (Or.inl ⟨by rfl, ?_⟩) ?_ ?_
                                rotate_left
                                · intro w'
                                  go_simp
                                  with_reducible rfl
                                rotate_left
                                · simp only [Act.put, List.setIfInBounds_toArray, List.set_cons_zero, List.set_cons_succ, i64_w, i32_w]
                                  rfl
                                refine pure_ (i := 8) (N := some 69) (v := ?_) (a' := ?_) #[false, false, true, true, true, true, false, true, true, false, false, false, false, false, false] rfl rfl (any_of HT_.out (by kernel_rfl)) (fun _ _ _ h => h) (Or.inl ⟨by rfl, ?_⟩) ?_ ?_
                                rotate_left
                                · intro w'
                                  go_simp
                                  with_reducible rfl
                                rotate_left
                                · simp only [Act.put, List.setIfInBounds_toArray, List.set_cons_zero, List.set_cons_succ, i64_w, i32_w]
                                  rfl
                                refine pure_ (i := 9) (N := some 70) (v := ?_) (a' := ?_) #[false, false, true, true, true, true, false, true, true, true, false, false, false, false, false] rfl rfl (any_of HT_.out (by kernel_rfl)) (fun _ _ _ h => h) (Or.inl ⟨by rfl, ?_⟩) ?_ ?_
                                rotate_left
                                · intro w'
                                  go_simp
                                  with_reducible rfl
                                rotate_left
                                · simp only [Act.put, List.setIfInBounds_toArray, List.set_cons_zero, List.set_cons_succ, i64_w, i32_w]
                                  rfl
                                refine pure_ (i := 10) (N := some 71) (v := ?_) (a' := ?_) #[false, false, true, true, true, true, false, true, true, true, true, false, false, false, false] rfl rfl (any_of HT_.out (by kernel_rfl)) (fun _ _ _ h => h) (Or.inl ⟨by rfl, ?_⟩) ?_ ?_
                                rotate_left
                                · intro w'
                                  go_simp
                                  with_reducible rfl
                                rotate_left
                                · simp only [Act.put, List.setIfInBounds_toArray, List.set_cons_zero, List.set_cons_succ, i64_w, i32_w]
                                  rfl
                                refine take_ (i := 0) (N := some 61) (v := ?_) (a' := ?_) #[true, false, true, true, true, true, false, true, true, true, true, false, false, false, false] rfl rfl (take_ofW HT_.out HW_.out (by kernel_rfl)) (fun _ _ _ h => h) (Or.inl ⟨by rfl, ?_⟩) hHeld ?_ ?_
                                rotate_left
                                · rintro w' ⟨s0, s1, s2, s3, s4, s5, s6, s7, s8⟩
                                  go_simp
                                  with_reducible rfl
                                rotate_left
                                · simp only [Act.put, List.setIfInBounds_toArray, List.set_cons_zero, List.set_cons_succ, i64_w, i32_w]
                                  rfl
                                refine take_ (i := 1) (N := some 62) (v := ?_) (a' := ?_) #[true, true, true, true, true, true, false, true, true, true, true, false, false, false, false] rfl rfl (take_ofW HT_.out HW_.out (by kernel_rfl)) (fun _ _ _ h => h) (Or.inl ⟨by rfl, ?_⟩) hHeld ?_ ?_
                                rotate_left
                                · rintro w' ⟨s0, s1, s2, s3, s4, s5, s6, s7, s8⟩
                                  go_simp
                                  with_reducible rfl
                                rotate_left
                                · simp only [Act.put, List.setIfInBounds_toArray, List.set_cons_zero, List.set_cons_succ, i64_w, i32_w]
                                  rfl
                                refine take_ (i := 6) (N := some 67) (v := ?_) (a' := ?_) #[true, true, true, true, true, true, true, true, true, true, true, false, false, false, false] rfl rfl (take_ofW HT_.out HW_.out (by kernel_rfl)) (fun _ _ _ h => h) (Or.inl ⟨by rfl, ?_⟩) hHeld ?_ ?_
                                rotate_left
                                · rintro w' ⟨s0, s1, s2, s3, s4, s5, s6, s7, s8⟩
                                  go_simp
                                  with_reducible rfl
                                rotate_left
                                · simp only [Act.put, List.setIfInBounds_toArray, List.set_cons_zero, List.set_cons_succ, i64_w, i32_w]
                                  rfl
                                refine pure_ (i := 11) (N := some 72) (v := ?_) (a' := ?_) #[true, true, true, true, true, true, true, true, true, true, true, true, false, false, false] rfl rfl (any_of HT_.out (by kernel_rfl)) (fun _ _ _ h => h) (Or.inl ⟨by rfl, ?_⟩) ?_ ?_
                                rotate_left
                                · intro w'
                                  go_simp
                                  with_reducible rfl
                                rotate_left
                                · simp only [Act.put, List.setIfInBounds_toArray, List.set_cons_zero, List.set_cons_succ, i64_w, i32_w]
                                  rfl
                                refine pure_ (i := 12) (N := some 73) (v := ?_) (a' := ?_) #[true, true, true, true, true, true, true, true, true, true, true, true, true, false, false] rfl rfl (any_of HT_.out (by kernel_rfl)) (fun _ _ _ h => h) (Or.inl ⟨by rfl, ?_⟩) ?_ ?_
                                rotate_left
                                · intro w'
                                  go_simp
                                  with_reducible rfl
                                rotate_left
                                · simp only [Act.put, List.setIfInBounds_toArray, List.set_cons_zero, List.set_cons_succ, i64_w, i32_w]
                                  rfl
                                refine one_ (i := 13) (N := some 74) #[true, true, true, true, true, true, true, true, true, true, true, true, true, true, false] rfl rfl (one_of HT_.out (by kernel_rfl)) (by decide) (fun K hK => ?_)
                                refine goes_ Tryd.func17 (by kernel_rfl) rfl #[.agg #[.int .i64 a0_0, .int .i64 a0_1, .int .i64 a0_2], .agg #[.int .i64 x340000_3, .int .i64 x340001_3, .int .i64 x340002_3, .int .i64 x340003_3, .bool x340004_3], .int .i64 (wrap64 (a1 + (Int.tmod (rd l3 x14_3) (wrap64 ((wrap64 (a2 - a1)) + 1)))))] (by rfl) rfl rfl (by (try simp only [List.map_toArray, List.map_cons, List.map_nil]); first | done | rfl | (simp only [List.length_drop, List.length_take]; rfl)) ?_
                                with_reducible refine (rto_Sample.calls a0_0 a0_1 a0_2 x340000_3 x340001_3 x340002_3 x340003_3 x340004_3 (wrap64 (a1 + (Int.tmod (rd l3 x14_3) (wrap64 ((wrap64 (a2 - a1)) + 1))))) t349 t350 t351 t352 t353 _ ?side1 A36.out).mono ?_
                                (case side1 => exact Tied.below HG.out (by repeat (first | (with_reducible first | exact HB.out | apply below_alloc | apply pw_below_drewN | apply below_drew1 | refine below_set ?_ GE331.out | refine below_set ?_ GE339.out) | exact HB.out)))
                                rintro e w59 ⟨rfl, hb⟩
                                refine ⟨_, rfl, ?_⟩
                                have n0_ := Aside0.mk (blk_below (g := gb331) (o := .cells #[.int .i64 a0_0, .int .i64 a0_1, .int .i64 a0_2] 23 (0, 0)) (by (with_reducible repeat (first | refine blk_drewN ?_ _ | refine blk_drew ?_ | refine blk_alloc ?_ _)); exact BK331.out) hb)
                                have n1_ := Aside0.mk (blk_below (g := gb339) (o := .cells #[.int .i64 x340000_3, .int .i64 x340001_3, .int .i64 x340002_3, .int .i64 x340003_3, .bool x340004_3] 26 (0, 0)) (by (with_reducible repeat (first | refine blk_drewN ?_ _ | refine blk_drew ?_ | refine blk_alloc ?_ _)); exact BK339.out) hb)
                                have n2_ := Aside0.mk (below_step (by repeat (first | (with_reducible first | exact HB.out | apply below_alloc | apply pw_below_drewN | apply below_drew1 | refine below_set ?_ GE331.out | refine below_set ?_ GE339.out) | exact HB.out)) hb)
                                clear BK331
                                clear BK339
                                clear HB
                                have BK331 := n0_
                                have BK339 := n1_
                                have HB := n2_
                                clear n0_ n1_ n2_
                                (try clear hb)
                                (try clear hb2)
                                (try clear hk)
                                (try clear hi)
                                refine hK.out _ _ ⟨(blk_cell BK331.out 0).trans rfl, (blk_cell BK331.out 1).trans rfl, (blk_cell BK331.out 2).trans rfl, (blk_cell BK339.out 0).trans rfl, (blk_cell BK339.out 1).trans rfl, (blk_cell BK339.out 2).trans rfl, (blk_cell BK339.out 3).trans rfl, (blk_cell BK339.out 4).trans rfl, ((HB.out.cell (World.block_lt_of_cell? w _ hw348_0)).trans hw348_0)⟩ (fun hHeld => ?_)
                                clear hK K
                                refine norm_ (a' := ?_) ?_ ?_
                                rotate_left
                                · show Act.put _ (some 74) _ = _
                                  simp only [Act.put, List.setIfInBounds_toArray, List.set_cons_zero, List.set_cons_succ, i64_w, i32_w]
                                  rfl
                                refine last_ (i := 14) (N := none) #[true, true, true, true, true, true, true, true, true, true, true, true, true, true, true] rfl rfl (one_of HT_.out (by kernel_rfl)) (by decide) (fun K hK => ?_)
                                have hs60 : w59.cell? ⟨gb339, 0, none⟩ = some (.int .i64 x340000_3) := (blk_cell BK339.out 0).trans rfl
                                have hfs60 := blk_frozen BK339.out 0
                                have hns60_0 := NB331_339.out
                                have hms60_0 := NB339_331.out
                                have hs61 : w59.cell? ⟨gb339, 1, none⟩ = some (.int .i64 x340001_3) := (blk_cell BK339.out 1).trans rfl
                                have hfs61 := blk_frozen BK339.out 1
                                have hns61_0 := NB331_339.out
                                have hms61_0 := NB339_331.out
                                have hs62 : w59.cell? ⟨gb339, 2, none⟩ = some (.int .i64 x340002_3) := (blk_cell BK339.out 2).trans rfl
                                have hfs62 := blk_frozen BK339.out 2
                                have hns62_0 := NB331_339.out
                                have hms62_0 := NB339_331.out
                                have hs63 : w59.cell? ⟨gb339, 3, none⟩ = some (.int .i64 x340003_3) := (blk_cell BK339.out 3).trans rfl
                                have hfs63 := blk_frozen BK339.out 3
                                have hns63_0 := NB331_339.out
                                have hms63_0 := NB339_331.out
                                have hs64 : w59.cell? ⟨gb339, 4, none⟩ = some (.bool x340004_3) := (blk_cell BK339.out 4).trans rfl
                                have hfs64 := blk_frozen BK339.out 4
                                have hns64_0 := NB331_339.out
                                have hms64_0 := NB339_331.out
                                refine skip_ (w1 := ?_) (by rfl) rfl ?_ ?_
                                rotate_left
                                · go_simp
                                  rfl
                                refine hK.out _ _ ?_
                                clear hK K
                                refine done_ (done_of HT_.out (by kernel_rfl)) ?_
                                have hnb65 := NB339_331.out
                                have hnc65 := NB331_339.out
                                have hcz66_0 : w59.cell? ⟨gb339, 0, none⟩ = some (.int .i64 x340000_3) := (blk_cell BK339.out 0).trans rfl
                                have hcz66_1 : w59.cell? ⟨gb339, 1, none⟩ = some (.int .i64 x340001_3) := (blk_cell BK339.out 1).trans rfl
                                have hcz66_2 : w59.cell? ⟨gb339, 2, none⟩ = some (.int .i64 x340002_3) := (blk_cell BK339.out 2).trans rfl
                                have hcz66_3 : w59.cell? ⟨gb339, 3, none⟩ = some (.int .i64 x340003_3) := (blk_cell BK339.out 3).trans rfl
                                have hcz66_4 : w59.cell? ⟨gb339, 4, none⟩ = some (.bool x340004_3) := (blk_cell BK339.out 4).trans rfl
                                have hfz66_0 := blk_frozen BK339.out 0
                                have hfz66_1 := blk_frozen BK339.out 1
                                have hfz66_2 := blk_frozen BK339.out 2
                                have hfz66_3 := blk_frozen BK339.out 3
                                have hfz66_4 := blk_frozen BK339.out 4
                                try go_wp2
                                go_ret
                                exact ⟨by first | rfl | (simp [errW_none, errW_some] <;> rfl) | (simp [*, errW_none, errW_some] <;> rfl), by repeat (first | (with_reducible first | exact HB.out | apply below_alloc | apply pw_below_drewN | apply below_drew1 | refine below_set ?_ GE331.out | refine below_set ?_ GE339.out) | exact HB.out)⟩
                              · rw [if_neg c57] at H
                                have c57b0 : decide ((wrap64 (4 * a2)) < t350) = false := decide_eq_false c57
                                clear c57
                                by_cases c67 : t350 < 0
                                · rw [if_pos c67] at H
                                  have c67b0 : decide (t350 < 0) = true := decide_eq_true c67
                                  clear c67
                                  obtain rfl := Option.some.inj H
                                  have p342 : 0 ≤ (x14_3 : Int) := of_decide_eq_true (by first | (with_reducible assumption) | assumption)
                                  have q342 : x14_3 < (l3.length : Int) := of_decide_eq_true (by first | (with_reducible assumption) | assumption)
                                  obtain ⟨ad342, e342, hx342_0⟩ := Kd.at_int HR3.out x14_3 p342 q342
                                  cases e342
                                  replace hx342_0 := (HB.out.cell (World.block_lt_of_cell? w _ hx342_0)).trans hx342_0
                                  replace p342 := eq_true p342
                                  replace q342 := eq_true q342
                                  try go_wp2
                                  have n0_ := Aside0.mk (blk_drew BK331.out)
                                  have n1_ := Aside0.mk (blk_drew BK339.out)
                                  have n2_ := Aside0.mk (below_drew1 HB.out)
                                  clear BK331
                                  clear BK339
                                  clear HB
                                  have BK331 := n0_
                                  have BK339 := n1_
                                  have HB := n2_
                                  clear n0_ n1_ n2_
                                  have p348 : 0 ≤ (x14_3 : Int) := of_decide_eq_true (by first | (with_reducible assumption) | assumption)
                                  have q348 : x14_3 < (l3.length : Int) := of_decide_eq_true (by first | (with_reducible assumption) | assumption)
                                  obtain ⟨ad348, e348, hx348_0⟩ := Kd.at_int HR3.out x14_3 p348 q348
                                  have hw348_0 := hx348_0
                                  obtain rfl : ad342 = ad348 := (by injection e348)
                                  replace hx348_0 := (HB.out.cell (World.block_lt_of_cell? w _ hx348_0)).trans hx348_0
                                  replace p348 := eq_true p348
                                  replace q348 := eq_true q348
                                  refine start_ (n := 15) (S := fun w' => w'.cell? ⟨gb331, 0, none⟩ = some (.int .i64 a0_0) ∧ w'.cell? ⟨gb331, 1, none⟩ = some (.int .i64 a0_1) ∧ w'.cell? ⟨gb331, 2, none⟩ = some (.int .i64 a0_2) ∧ w'.cell? ⟨gb339, 0, none⟩ = some (.int .i64 x340000_3) ∧ w'.cell? ⟨gb339, 1, none⟩ = some (.int .i64 x340001_3) ∧ w'.cell? ⟨gb339, 2, none⟩ = some (.int .i64 x340002_3) ∧ w'.cell? ⟨gb339, 3, none⟩ = some (.int .i64 x340003_3) ∧ w'.cell? ⟨gb339, 4, none⟩ = some (.bool x340004_3) ∧ w'.cell? (ad342.add (x14_3).toNat) = some (.int .i64 (rd l3 x14_3))) (ds := [14]) #[false, false, false, false, false, false, false, false, false, false, false, false, false, false, false] (by kernel_rfl) rfl rfl ⟨(blk_cell BK331.out 0).trans rfl, (blk_cell BK331.out 1).trans rfl, (blk_cell BK331.out 2).trans rfl, (blk_cell BK339.out 0).trans rfl, (blk_cell BK339.out 1).trans rfl, (blk_cell BK339.out 2).trans rfl, (blk_cell BK339.out 3).trans rfl, (blk_cell BK339.out 4).trans rfl, ((HB.out.cell (World.block_lt_of_cell? w _ hw348_0)).trans hw348_0)⟩ (fun hHeld => ?_); refine with_tabW annexlaw17_RtoBetween.tab15 annexlaw17_RtoBetween.bits15 (fun HT_ HW_ => ?_)
                                  generalize wr.drew = w68 at BK331 BK339 HB hx348_0 hHeld ⊢
                                  refine pure_ (i := 2) (N := some 63) (v := ?_) (a' := ?_) #[false, false, true, false, false, false, false, false, false, false, false, false, false, false, false] rfl rfl (any_of HT_.out (by kernel_rfl)) (fun _ _ _ h => h) (Or.inl ⟨by rfl, ?_⟩) ?_ ?_
                                  rotate_left
                                  · intro w'
                                    go_simp
                                    with_reducible rfl
                                  rotate_left
                                  · simp only [Act.put, List.setIfInBounds_toArray, List.set_cons_zero, List.set_cons_succ, i64_w, i32_w]
                                    rfl
                                  refine pure_ (i := 3) (N := some 64) (v := ?_) (a' := ?_) #[false, false, true, true, false, false, false, false, false, false, false, false, false, false, false] rfl rfl (any_of HT_.out (by kernel_rfl)) (fun _ _ _ h => h) (Or.inl ⟨by rfl, ?_⟩) ?_ ?_
                                  rotate_left
                                  · intro w'
                                    go_simp
                                    with_reducible rfl
                                  rotate_left
                                  · simp only [Act.put, List.setIfInBounds_toArray, List.set_cons_zero, List.set_cons_succ, i64_w, i32_w]
                                    rfl
                                  refine pure_ (i := 4) (N := some 65) (v := ?_) (a' := ?_) #[false, false, true, true, true, false, false, false, false, false, false, false, false, false, false] rfl rfl (any_of HT_.out (by kernel_rfl)) (fun _ _ _ h => h) (Or.inl ⟨by rfl, ?_⟩) ?_ ?_
                                  rotate_left
                                  · intro w'
                                    go_simp
                                    with_reducible rfl
                                  rotate_left
                                  · simp only [Act.put, List.setIfInBounds_toArray, List.set_cons_zero, List.set_cons_succ, i64_w, i32_w]
                                    rfl
                                  refine pure_ (i := 5) (N := some 66) (v := ?_) (a' := ?_) #[false, false, true, true, true, true, false, false, false, false, false, false, false, false, false] rfl rfl (any_of HT_.out (by kernel_rfl)) (fun _ _ _ h => h) (Or.inl ⟨by rfl, ?_⟩) ?_ ?_
                                  rotate_left
                                  · intro w'
                                    go_simp
                                    with_reducible rfl
                                  rotate_left
                                  · simp only [Act.put, List.setIfInBounds_toArray, List.set_cons_zero, List.set_cons_succ, i64_w, i32_w]
                                    rfl
                                  refine pure_ (i := 7) (N := some 68) (v := ?_) (a' := ?_) #[false, false, true, true, true, true, false, true, false, false, false, false, false, false, false] rfl rfl (any_of HT_.out (by kernel_rfl)) (fun _ _ _ h => h) (Or.inl ⟨by rfl, ?_⟩) ?_ ?_
                                  rotate_left
                                  · intro w'
                                    go_simp
                                    with_reducible rfl
                                  rotate_left
                                  · simp only [Act.put, List.setIfInBounds_toArray, List.set_cons_zero, List.set_cons_succ, i64_w, i32_w]
                                    rfl
                                  refine pure_ (i := 8) (N := some 69) (v := ?_) (a' := ?_) #[false, false, true, true, true, true, false, true, true, false, false, false, false, false, false] rfl rfl (any_of HT_.out (by kernel_rfl)) (fun _ _ _ h => h) (Or.inl ⟨by rfl, ?_⟩) ?_ ?_
                                  rotate_left
                                  · intro w'
                                    go_simp
                                    with_reducible rfl
                                  rotate_left
                                  · simp only [Act.put, List.setIfInBounds_toArray, List.set_cons_zero, List.set_cons_succ, i64_w, i32_w]
                                    rfl
                                  refine pure_ (i := 9) (N := some 70) (v := ?_) (a' := ?_) #[false, false, true, true, true, true, false, true, true, true, false, false, false, false, false] rfl rfl (any_of HT_.out (by kernel_rfl)) (fun _ _ _ h => h) (Or.inl ⟨by rfl, ?_⟩) ?_ ?_
                                  rotate_left
                                  · intro w'
                                    go_simp
                                    with_reducible rfl
                                  rotate_left
                                  · simp only [Act.put, List.setIfInBounds_toArray, List.set_cons_zero, List.set_cons_succ, i64_w, i32_w]
                                    rfl
                                  refine pure_ (i := 10) (N := some 71) (v := ?_) (a' := ?_) #[false, false, true, true, true, true, false, true, true, true, true, false, false, false, false] rfl rfl (any_of HT_.out (by kernel_rfl)) (fun _ _ _ h => h) (Or.inl ⟨by rfl, ?_⟩) ?_ ?_
                                  rotate_left
                                  · intro w'
                                    go_simp
                                    with_reducible rfl
                                  rotate_left
                                  · simp only [Act.put, List.setIfInBounds_toArray, List.set_cons_zero, List.set_cons_succ, i64_w, i32_w]
                                    rfl
                                  refine take_ (i := 0) (N := some 61) (v := ?_) (a' := ?_) #[true, false, true, true, true, true, false, true, true, true, true, false, false, false, false] rfl rfl (take_ofW HT_.out HW_.out (by kernel_rfl)) (fun _ _ _ h => h) (Or.inl ⟨by rfl, ?_⟩) hHeld ?_ ?_
                                  rotate_left
                                  · rintro w' ⟨s0, s1, s2, s3, s4, s5, s6, s7, s8⟩
                                    go_simp
                                    with_reducible rfl
                                  rotate_left
                                  · simp only [Act.put, List.setIfInBounds_toArray, List.set_cons_zero, List.set_cons_succ, i64_w, i32_w]
                                    rfl
                                  refine take_ (i := 1) (N := some 62) (v := ?_) (a' := ?_) #[true, true, true, true, true, true, false, true, true, true, true, false, false, false, false] rfl rfl (take_ofW HT_.out HW_.out (by kernel_rfl)) (fun _ _ _ h => h) (Or.inl ⟨by rfl, ?_⟩) hHeld ?_ ?_
                                  rotate_left
                                  · rintro w' ⟨s0, s1, s2, s3, s4, s5, s6, s7, s8⟩
                                    go_simp
                                    with_reducible rfl
                                  rotate_left
                                  · simp only [Act.put, List.setIfInBounds_toArray, List.set_cons_zero, List.set_cons_succ, i64_w, i32_w]
                                    rfl
                                  refine take_ (i := 6) (N := some 67) (v := ?_) (a' := ?_) #[true, true, true, true, true, true, true, true, true, true, true, false, false, false, false] rfl rfl (take_ofW HT_.out HW_.out (by kernel_rfl)) (fun _ _ _ h => h) (Or.inl ⟨by rfl, ?_⟩) hHeld ?_ ?_
                                  rotate_left
                                  · rintro w' ⟨s0, s1, s2, s3, s4, s5, s6, s7, s8⟩
                                    go_simp
                                    with_reducible rfl
                                  rotate_left
                                  · simp only [Act.put, List.setIfInBounds_toArray, List.set_cons_zero, List.set_cons_succ, i64_w, i32_w]
                                    rfl
                                  refine pure_ (i := 11) (N := some 72) (v := ?_) (a' := ?_) #[true, true, true, true, true, true, true, true, true, true, true, true, false, false, false] rfl rfl (any_of HT_.out (by kernel_rfl)) (fun _ _ _ h => h) (Or.inl ⟨by rfl, ?_⟩) ?_ ?_
                                  rotate_left
                                  · intro w'
                                    go_simp
                                    with_reducible rfl
                                  rotate_left
                                  · simp only [Act.put, List.setIfInBounds_toArray, List.set_cons_zero, List.set_cons_succ, i64_w, i32_w]
                                    rfl
                                  refine pure_ (i := 12) (N := some 73) (v := ?_) (a' := ?_) #[true, true, true, true, true, true, true, true, true, true, true, true, true, false, false] rfl rfl (any_of HT_.out (by kernel_rfl)) (fun _ _ _ h => h) (Or.inl ⟨by rfl, ?_⟩) ?_ ?_
                                  rotate_left
                                  · intro w'
                                    go_simp
                                    with_reducible rfl
                                  rotate_left
                                  · simp only [Act.put, List.setIfInBounds_toArray, List.set_cons_zero, List.set_cons_succ, i64_w, i32_w]
                                    rfl
                                  refine one_ (i := 13) (N := some 74) #[true, true, true, true, true, true, true, true, true, true, true, true, true, true, false] rfl rfl (one_of HT_.out (by kernel_rfl)) (by decide) (fun K hK => ?_)
                                  refine goes_ Tryd.func17 (by kernel_rfl) rfl #[.agg #[.int .i64 a0_0, .int .i64 a0_1, .int .i64 a0_2], .agg #[.int .i64 x340000_3, .int .i64 x340001_3, .int .i64 x340002_3, .int .i64 x340003_3, .bool x340004_3], .int .i64 (wrap64 (a1 + (Int.tmod (rd l3 x14_3) (wrap64 ((wrap64 (a2 - a1)) + 1)))))] (by rfl) rfl rfl (by (try simp only [List.map_toArray, List.map_cons, List.map_nil]); first | done | rfl | (simp only [List.length_drop, List.length_take]; rfl)) ?_
                                  with_reducible refine (rto_Sample.calls a0_0 a0_1 a0_2 x340000_3 x340001_3 x340002_3 x340003_3 x340004_3 (wrap64 (a1 + (Int.tmod (rd l3 x14_3) (wrap64 ((wrap64 (a2 - a1)) + 1))))) t349 t350 t351 t352 t353 _ ?side1 A36.out).mono ?_
                                  (case side1 => exact Tied.below HG.out (by repeat (first | (with_reducible first | exact HB.out | apply below_alloc | apply pw_below_drewN | apply below_drew1 | refine below_set ?_ GE331.out | refine below_set ?_ GE339.out) | exact HB.out)))
                                  rintro e w69 ⟨rfl, hb⟩
                                  refine ⟨_, rfl, ?_⟩
                                  have n0_ := Aside0.mk (blk_below (g := gb331) (o := .cells #[.int .i64 a0_0, .int .i64 a0_1, .int .i64 a0_2] 23 (0, 0)) (by (with_reducible repeat (first | refine blk_drewN ?_ _ | refine blk_drew ?_ | refine blk_alloc ?_ _)); exact BK331.out) hb)
                                  have n1_ := Aside0.mk (blk_below (g := gb339) (o := .cells #[.int .i64 x340000_3, .int .i64 x340001_3, .int .i64 x340002_3, .int .i64 x340003_3, .bool x340004_3] 26 (0, 0)) (by (with_reducible repeat (first | refine blk_drewN ?_ _ | refine blk_drew ?_ | refine blk_alloc ?_ _)); exact BK339.out) hb)
                                  have n2_ := Aside0.mk (below_step (by repeat (first | (with_reducible first | exact HB.out | apply below_alloc | apply pw_below_drewN | apply below_drew1 | refine below_set ?_ GE331.out | refine below_set ?_ GE339.out) | exact HB.out)) hb)
                                  clear BK331
                                  clear BK339
                                  clear HB
                                  have BK331 := n0_
                                  have BK339 := n1_
                                  have HB := n2_
                                  clear n0_ n1_ n2_
                                  (try clear hb)
                                  (try clear hb2)
                                  (try clear hk)
                                  (try clear hi)
                                  refine hK.out _ _ ⟨(blk_cell BK331.out 0).trans rfl, (blk_cell BK331.out 1).trans rfl, (blk_cell BK331.out 2).trans rfl, (blk_cell BK339.out 0).trans rfl, (blk_cell BK339.out 1).trans rfl, (blk_cell BK339.out 2).trans rfl, (blk_cell BK339.out 3).trans rfl, (blk_cell BK339.out 4).trans rfl, ((HB.out.cell (World.block_lt_of_cell? w _ hw348_0)).trans hw348_0)⟩ (fun hHeld => ?_)
                                  clear hK K
                                  refine norm_ (a' := ?_) ?_ ?_
                                  rotate_left
                                  · show Act.put _ (some 74) _ = _
                                    simp only [Act.put, List.setIfInBounds_toArray, List.set_cons_zero, List.set_cons_succ, i64_w, i32_w]
                                    rfl
                                  refine last_ (i := 14) (N := none) #[true, true, true, true, true, true, true, true, true, true, true, true, true, true, true] rfl rfl (one_of HT_.out (by kernel_rfl)) (by decide) (fun K hK => ?_)
                                  have hs70 : w69.cell? ⟨gb339, 0, none⟩ = some (.int .i64 x340000_3) := (blk_cell BK339.out 0).trans rfl
                                  have hfs70 := blk_frozen BK339.out 0
                                  have hns70_0 := NB331_339.out
                                  have hms70_0 := NB339_331.out
                                  have hs71 : w69.cell? ⟨gb339, 1, none⟩ = some (.int .i64 x340001_3) := (blk_cell BK339.out 1).trans rfl
                                  have hfs71 := blk_frozen BK339.out 1
                                  have hns71_0 := NB331_339.out
                                  have hms71_0 := NB339_331.out
                                  have hs72 : w69.cell? ⟨gb339, 2, none⟩ = some (.int .i64 x340002_3) := (blk_cell BK339.out 2).trans rfl
                                  have hfs72 := blk_frozen BK339.out 2
                                  have hns72_0 := NB331_339.out
                                  have hms72_0 := NB339_331.out
                                  have hs73 : w69.cell? ⟨gb339, 3, none⟩ = some (.int .i64 x340003_3) := (blk_cell BK339.out 3).trans rfl
                                  have hfs73 := blk_frozen BK339.out 3
                                  have hns73_0 := NB331_339.out
                                  have hms73_0 := NB339_331.out
                                  have hs74 : w69.cell? ⟨gb339, 4, none⟩ = some (.bool x340004_3) := (blk_cell BK339.out 4).trans rfl
                                  have hfs74 := blk_frozen BK339.out 4
                                  have hns74_0 := NB331_339.out
                                  have hms74_0 := NB339_331.out
                                  refine skip_ (w1 := ?_) (by rfl) rfl ?_ ?_
                                  rotate_left
                                  · go_simp
                                    rfl
                                  refine hK.out _ _ ?_
                                  clear hK K
                                  refine done_ (done_of HT_.out (by kernel_rfl)) ?_
                                  have hnb75 := NB339_331.out
                                  have hnc75 := NB331_339.out
                                  have hcz76_0 : w69.cell? ⟨gb339, 0, none⟩ = some (.int .i64 x340000_3) := (blk_cell BK339.out 0).trans rfl
                                  have hcz76_1 : w69.cell? ⟨gb339, 1, none⟩ = some (.int .i64 x340001_3) := (blk_cell BK339.out 1).trans rfl
                                  have hcz76_2 : w69.cell? ⟨gb339, 2, none⟩ = some (.int .i64 x340002_3) := (blk_cell BK339.out 2).trans rfl
                                  have hcz76_3 : w69.cell? ⟨gb339, 3, none⟩ = some (.int .i64 x340003_3) := (blk_cell BK339.out 3).trans rfl
                                  have hcz76_4 : w69.cell? ⟨gb339, 4, none⟩ = some (.bool x340004_3) := (blk_cell BK339.out 4).trans rfl
                                  have hfz76_0 := blk_frozen BK339.out 0
                                  have hfz76_1 := blk_frozen BK339.out 1
                                  have hfz76_2 := blk_frozen BK339.out 2
                                  have hfz76_3 := blk_frozen BK339.out 3
                                  have hfz76_4 := blk_frozen BK339.out 4
                                  try go_wp2
                                  go_ret
                                  exact ⟨by first | rfl | (simp [errW_none, errW_some] <;> rfl) | (simp [*, errW_none, errW_some] <;> rfl), by repeat (first | (with_reducible first | exact HB.out | apply below_alloc | apply pw_below_drewN | apply below_drew1 | refine below_set ?_ GE331.out | refine below_set ?_ GE339.out) | exact HB.out)⟩
                                · rw [if_neg c67] at H
                                  have c67b0 : decide (t350 < 0) = false := decide_eq_false c67
                                  clear c67
                                  have H' := Aside0.mk H
                                  clear H
                                  have p342 : 0 ≤ (x14_3 : Int) := of_decide_eq_true (by first | (with_reducible assumption) | assumption)
                                  have q342 : x14_3 < (l3.length : Int) := of_decide_eq_true (by first | (with_reducible assumption) | assumption)
                                  obtain ⟨ad342, e342, hx342_0⟩ := Kd.at_int HR3.out x14_3 p342 q342
                                  cases e342
                                  replace hx342_0 := (HB.out.cell (World.block_lt_of_cell? w _ hx342_0)).trans hx342_0
                                  replace p342 := eq_true p342
                                  replace q342 := eq_true q342
                                  try go_wp2
                                  have n0_ := Aside0.mk (blk_drew BK331.out)
                                  have n1_ := Aside0.mk (blk_drew BK339.out)
                                  have n2_ := Aside0.mk (below_drew1 HB.out)
                                  clear BK331
                                  clear BK339
                                  clear HB
                                  have BK331 := n0_
                                  have BK339 := n1_
                                  have HB := n2_
                                  clear n0_ n1_ n2_
                                  have p348 : 0 ≤ (x14_3 : Int) := of_decide_eq_true (by first | (with_reducible assumption) | assumption)
                                  have q348 : x14_3 < (l3.length : Int) := of_decide_eq_true (by first | (with_reducible assumption) | assumption)
                                  obtain ⟨ad348, e348, hx348_0⟩ := Kd.at_int HR3.out x14_3 p348 q348
                                  have hw348_0 := hx348_0
                                  obtain rfl : ad342 = ad348 := (by injection e348)
                                  replace hx348_0 := (HB.out.cell (World.block_lt_of_cell? w _ hx348_0)).trans hx348_0
                                  replace p348 := eq_true p348
                                  replace q348 := eq_true q348
                                  refine start_ (n := 15) (S := fun w' => w'.cell? ⟨gb331, 0, none⟩ = some (.int .i64 a0_0) ∧ w'.cell? ⟨gb331, 1, none⟩ = some (.int .i64 a0_1) ∧ w'.cell? ⟨gb331, 2, none⟩ = some (.int .i64 a0_2) ∧ w'.cell? ⟨gb339, 0, none⟩ = some (.int .i64 x340000_3) ∧ w'.cell? ⟨gb339, 1, none⟩ = some (.int .i64 x340001_3) ∧ w'.cell? ⟨gb339, 2, none⟩ = some (.int .i64 x340002_3) ∧ w'.cell? ⟨gb339, 3, none⟩ = some (.int .i64 x340003_3) ∧ w'.cell? ⟨gb339, 4, none⟩ = some (.bool x340004_3) ∧ w'.cell? (ad342.add (x14_3).toNat) = some (.int .i64 (rd l3 x14_3))) (ds := [14]) #[false, false, false, false, false, false, false, false, false, false, false, false, false, false, false] (by kernel_rfl) rfl rfl ⟨(blk_cell BK331.out 0).trans rfl, (blk_cell BK331.out 1).trans rfl, (blk_cell BK331.out 2).trans rfl, (blk_cell BK339.out 0).trans rfl, (blk_cell BK339.out 1).trans rfl, (blk_cell BK339.out 2).trans rfl, (blk_cell BK339.out 3).trans rfl, (blk_cell BK339.out 4).trans rfl, ((HB.out.cell (World.block_lt_of_cell? w _ hw348_0)).trans hw348_0)⟩ (fun hHeld => ?_); refine with_tabW annexlaw17_RtoBetween.tab15 annexlaw17_RtoBetween.bits15 (fun HT_ HW_ => ?_)
                                  generalize wr.drew = w77 at BK331 BK339 HB hx348_0 hHeld ⊢
                                  refine pure_ (i := 2) (N := some 63) (v := ?_) (a' := ?_) #[false, false, true, false, false, false, false, false, false, false, false, false, false, false, false] rfl rfl (any_of HT_.out (by kernel_rfl)) (fun _ _ _ h => h) (Or.inl ⟨by rfl, ?_⟩) ?_ ?_
                                  rotate_left
                                  · intro w'
                                    go_simp
                                    with_reducible rfl
                                  rotate_left
                                  · simp only [Act.put, List.setIfInBounds_toArray, List.set_cons_zero, List.set_cons_succ, i64_w, i32_w]
                                    rfl
                                  refine pure_ (i := 3) (N := some 64) (v := ?_) (a' := ?_) #[false, false, true, true, false, false, false, false, false, false, false, false, false, false, false] rfl rfl (any_of HT_.out (by kernel_rfl)) (fun _ _ _ h => h) (Or.inl ⟨by rfl, ?_⟩) ?_ ?_
                                  rotate_left
                                  · intro w'
                                    go_simp
                                    with_reducible rfl
                                  rotate_left
                                  · simp only [Act.put, List.setIfInBounds_toArray, List.set_cons_zero, List.set_cons_succ, i64_w, i32_w]
                                    rfl
                                  refine pure_ (i := 4) (N := some 65) (v := ?_) (a' := ?_) #[false, false, true, true, true, false, false, false, false, false, false, false, false, false, false] rfl rfl (any_of HT_.out (by kernel_rfl)) (fun _ _ _ h => h) (Or.inl ⟨by rfl, ?_⟩) ?_ ?_
                                  rotate_left
                                  · intro w'
                                    go_simp
                                    with_reducible rfl
                                  rotate_left
                                  · simp only [Act.put, List.setIfInBounds_toArray, List.set_cons_zero, List.set_cons_succ, i64_w, i32_w]
                                    rfl
                                  refine pure_ (i := 5) (N := some 66) (v := ?_) (a' := ?_) #[false, false, true, true, true, true, false, false, false, false, false, false, false, false, false] rfl rfl (any_of HT_.out (by kernel_rfl)) (fun _ _ _ h => h) (Or.inl ⟨by rfl, ?_⟩) ?_ ?_
                                  rotate_left
                                  · intro w'
                                    go_simp
                                    with_reducible rfl
                                  rotate_left
                                  · simp only [Act.put, List.setIfInBounds_toArray, List.set_cons_zero, List.set_cons_succ, i64_w, i32_w]
                                    rfl
                                  refine pure_ (i := 7) (N := some 68) (v := ?_) (a' := ?_) #[false, false, true, true, true, true, false, true, false, false, false, false, false, false, false] rfl rfl (any_of HT_.out (by kernel_rfl)) (fun _ _ _ h => h) (Or.inl ⟨by rfl, ?_⟩) ?_ ?_
                                  rotate_left
                                  · intro w'
                                    go_simp
                                    with_reducible rfl
                                  rotate_left
                                  · simp only [Act.put, List.setIfInBounds_toArray, List.set_cons_zero, List.set_cons_succ, i64_w, i32_w]
                                    rfl
                                  refine pure_ (i := 8) (N := some 69) (v := ?_) (a' := ?_) #[false, false, true, true, true, true, false, true, true, false, false, false, false, false, false] rfl rfl (any_of HT_.out (by kernel_rfl)) (fun _ _ _ h => h) (Or.inl ⟨by rfl, ?_⟩) ?_ ?_
                                  rotate_left
                                  · intro w'
                                    go_simp
                                    with_reducible rfl
                                  rotate_left
                                  · simp only [Act.put, List.setIfInBounds_toArray, List.set_cons_zero, List.set_cons_succ, i64_w, i32_w]
                                    rfl
                                  refine pure_ (i := 9) (N := some 70) (v := ?_) (a' := ?_) #[false, false, true, true, true, true, false, true, true, true, false, false, false, false, false] rfl rfl (any_of HT_.out (by kernel_rfl)) (fun _ _ _ h => h) (Or.inl ⟨by rfl, ?_⟩) ?_ ?_
                                  rotate_left
                                  · intro w'
                                    go_simp
                                    with_reducible rfl
                                  rotate_left
                                  · simp only [Act.put, List.setIfInBounds_toArray, List.set_cons_zero, List.set_cons_succ, i64_w, i32_w]
                                    rfl
                                  refine pure_ (i := 10) (N := some 71) (v := ?_) (a' := ?_) #[false, false, true, true, true, true, false, true, true, true, true, false, false, false, false] rfl rfl (any_of HT_.out (by kernel_rfl)) (fun _ _ _ h => h) (Or.inl ⟨by rfl, ?_⟩) ?_ ?_
                                  rotate_left
                                  · intro w'
                                    go_simp
                                    with_reducible rfl
                                  rotate_left
                                  · simp only [Act.put, List.setIfInBounds_toArray, List.set_cons_zero, List.set_cons_succ, i64_w, i32_w]
                                    rfl
                                  refine take_ (i := 0) (N := some 61) (v := ?_) (a' := ?_) #[true, false, true, true, true, true, false, true, true, true, true, false, false, false, false] rfl rfl (take_ofW HT_.out HW_.out (by kernel_rfl)) (fun _ _ _ h => h) (Or.inl ⟨by rfl, ?_⟩) hHeld ?_ ?_
                                  rotate_left
                                  · rintro w' ⟨s0, s1, s2, s3, s4, s5, s6, s7, s8⟩
                                    go_simp
                                    with_reducible rfl
                                  rotate_left
                                  · simp only [Act.put, List.setIfInBounds_toArray, List.set_cons_zero, List.set_cons_succ, i64_w, i32_w]
                                    rfl
                                  refine take_ (i := 1) (N := some 62) (v := ?_) (a' := ?_) #[true, true, true, true, true, true, false, true, true, true, true, false, false, false, false] rfl rfl (take_ofW HT_.out HW_.out (by kernel_rfl)) (fun _ _ _ h => h) (Or.inl ⟨by rfl, ?_⟩) hHeld ?_ ?_
                                  rotate_left
                                  · rintro w' ⟨s0, s1, s2, s3, s4, s5, s6, s7, s8⟩
                                    go_simp
                                    with_reducible rfl
                                  rotate_left
                                  · simp only [Act.put, List.setIfInBounds_toArray, List.set_cons_zero, List.set_cons_succ, i64_w, i32_w]
                                    rfl
                                  refine take_ (i := 6) (N := some 67) (v := ?_) (a' := ?_) #[true, true, true, true, true, true, true, true, true, true, true, false, false, false, false] rfl rfl (take_ofW HT_.out HW_.out (by kernel_rfl)) (fun _ _ _ h => h) (Or.inl ⟨by rfl, ?_⟩) hHeld ?_ ?_
                                  rotate_left
                                  · rintro w' ⟨s0, s1, s2, s3, s4, s5, s6, s7, s8⟩
                                    go_simp
                                    with_reducible rfl
                                  rotate_left
                                  · simp only [Act.put, List.setIfInBounds_toArray, List.set_cons_zero, List.set_cons_succ, i64_w, i32_w]
                                    rfl
                                  refine pure_ (i := 11) (N := some 72) (v := ?_) (a' := ?_) #[true, true, true, true, true, true, true, true, true, true, true, true, false, false, false] rfl rfl (any_of HT_.out (by kernel_rfl)) (fun _ _ _ h => h) (Or.inl ⟨by rfl, ?_⟩) ?_ ?_
                                  rotate_left
                                  · intro w'
                                    go_simp
                                    with_reducible rfl
                                  rotate_left
                                  · simp only [Act.put, List.setIfInBounds_toArray, List.set_cons_zero, List.set_cons_succ, i64_w, i32_w]
                                    rfl
                                  refine pure_ (i := 12) (N := some 73) (v := ?_) (a' := ?_) #[true, true, true, true, true, true, true, true, true, true, true, true, true, false, false] rfl rfl (any_of HT_.out (by kernel_rfl)) (fun _ _ _ h => h) (Or.inl ⟨by rfl, ?_⟩) ?_ ?_
                                  rotate_left
                                  · intro w'
                                    go_simp
                                    with_reducible rfl
                                  rotate_left
                                  · simp only [Act.put, List.setIfInBounds_toArray, List.set_cons_zero, List.set_cons_succ, i64_w, i32_w]
                                    rfl
                                  refine one_ (i := 13) (N := some 74) #[true, true, true, true, true, true, true, true, true, true, true, true, true, true, false] rfl rfl (one_of HT_.out (by kernel_rfl)) (by decide) (fun K hK => ?_)
                                  refine goes_ Tryd.func17 (by kernel_rfl) rfl #[.agg #[.int .i64 a0_0, .int .i64 a0_1, .int .i64 a0_2], .agg #[.int .i64 x340000_3, .int .i64 x340001_3, .int .i64 x340002_3, .int .i64 x340003_3, .bool x340004_3], .int .i64 (wrap64 (a1 + (Int.tmod (rd l3 x14_3) (wrap64 ((wrap64 (a2 - a1)) + 1)))))] (by rfl) rfl rfl (by (try simp only [List.map_toArray, List.map_cons, List.map_nil]); first | done | rfl | (simp only [List.length_drop, List.length_take]; rfl)) ?_
                                  with_reducible refine (rto_Sample.calls a0_0 a0_1 a0_2 x340000_3 x340001_3 x340002_3 x340003_3 x340004_3 (wrap64 (a1 + (Int.tmod (rd l3 x14_3) (wrap64 ((wrap64 (a2 - a1)) + 1))))) t349 t350 t351 t352 t353 _ ?side1 A36.out).mono ?_
                                  (case side1 => exact Tied.below HG.out (by repeat (first | (with_reducible first | exact HB.out | apply below_alloc | apply pw_below_drewN | apply below_drew1 | refine below_set ?_ GE331.out | refine below_set ?_ GE339.out) | exact HB.out)))
                                  rintro e w78 ⟨rfl, hb⟩
                                  refine ⟨_, rfl, ?_⟩
                                  have n0_ := Aside0.mk (blk_below (g := gb331) (o := .cells #[.int .i64 a0_0, .int .i64 a0_1, .int .i64 a0_2] 23 (0, 0)) (by (with_reducible repeat (first | refine blk_drewN ?_ _ | refine blk_drew ?_ | refine blk_alloc ?_ _)); exact BK331.out) hb)
                                  have n1_ := Aside0.mk (blk_below (g := gb339) (o := .cells #[.int .i64 x340000_3, .int .i64 x340001_3, .int .i64 x340002_3, .int .i64 x340003_3, .bool x340004_3] 26 (0, 0)) (by (with_reducible repeat (first | refine blk_drewN ?_ _ | refine blk_drew ?_ | refine blk_alloc ?_ _)); exact BK339.out) hb)
                                  have n2_ := Aside0.mk (below_step (by repeat (first | (with_reducible first | exact HB.out | apply below_alloc | apply pw_below_drewN | apply below_drew1 | refine below_set ?_ GE331.out | refine below_set ?_ GE339.out) | exact HB.out)) hb)
                                  clear BK331
                                  clear BK339
                                  clear HB
                                  have BK331 := n0_
                                  have BK339 := n1_
                                  have HB := n2_
                                  clear n0_ n1_ n2_
                                  (try clear hb)
                                  (try clear hb2)
                                  (try clear hk)
                                  (try clear hi)
                                  refine hK.out _ _ ⟨(blk_cell BK331.out 0).trans rfl, (blk_cell BK331.out 1).trans rfl, (blk_cell BK331.out 2).trans rfl, (blk_cell BK339.out 0).trans rfl, (blk_cell BK339.out 1).trans rfl, (blk_cell BK339.out 2).trans rfl, (blk_cell BK339.out 3).trans rfl, (blk_cell BK339.out 4).trans rfl, ((HB.out.cell (World.block_lt_of_cell? w _ hw348_0)).trans hw348_0)⟩ (fun hHeld => ?_)
                                  clear hK K
                                  refine norm_ (a' := ?_) ?_ ?_
                                  rotate_left
                                  · show Act.put _ (some 74) _ = _
                                    simp only [Act.put, List.setIfInBounds_toArray, List.set_cons_zero, List.set_cons_succ, i64_w, i32_w]
                                    rfl
                                  refine last_ (i := 14) (N := none) #[true, true, true, true, true, true, true, true, true, true, true, true, true, true, true] rfl rfl (one_of HT_.out (by kernel_rfl)) (by decide) (fun K hK => ?_)
                                  have hs79 : w78.cell? ⟨gb339, 0, none⟩ = some (.int .i64 x340000_3) := (blk_cell BK339.out 0).trans rfl
                                  have hfs79 := blk_frozen BK339.out 0
                                  have hns79_0 := NB331_339.out
                                  have hms79_0 := NB339_331.out
                                  have hs80 : w78.cell? ⟨gb339, 1, none⟩ = some (.int .i64 x340001_3) := (blk_cell BK339.out 1).trans rfl
                                  have hfs80 := blk_frozen BK339.out 1
                                  have hns80_0 := NB331_339.out
                                  have hms80_0 := NB339_331.out
                                  have hs81 : w78.cell? ⟨gb339, 2, none⟩ = some (.int .i64 x340002_3) := (blk_cell BK339.out 2).trans rfl
                                  have hfs81 := blk_frozen BK339.out 2
                                  have hns81_0 := NB331_339.out
                                  have hms81_0 := NB339_331.out
                                  have hs82 : w78.cell? ⟨gb339, 3, none⟩ = some (.int .i64 x340003_3) := (blk_cell BK339.out 3).trans rfl
                                  have hfs82 := blk_frozen BK339.out 3
                                  have hns82_0 := NB331_339.out
                                  have hms82_0 := NB339_331.out
                                  have hs83 : w78.cell? ⟨gb339, 4, none⟩ = some (.bool x340004_3) := (blk_cell BK339.out 4).trans rfl
                                  have hfs83 := blk_frozen BK339.out 4
                                  have hns83_0 := NB331_339.out
                                  have hms83_0 := NB339_331.out
                                  refine skip_ (w1 := ?_) (by rfl) rfl ?_ ?_
                                  rotate_left
                                  · go_simp
                                    rfl
                                  refine hK.out _ _ ?_
                                  clear hK K
                                  refine done_ (done_of HT_.out (by kernel_rfl)) ?_
                                  have hnb84 := NB339_331.out
                                  have hnc84 := NB331_339.out
                                  have hcz85_0 : w78.cell? ⟨gb339, 0, none⟩ = some (.int .i64 x340000_3) := (blk_cell BK339.out 0).trans rfl
                                  have hcz85_1 : w78.cell? ⟨gb339, 1, none⟩ = some (.int .i64 x340001_3) := (blk_cell BK339.out 1).trans rfl
                                  have hcz85_2 : w78.cell? ⟨gb339, 2, none⟩ = some (.int .i64 x340002_3) := (blk_cell BK339.out 2).trans rfl
                                  have hcz85_3 : w78.cell? ⟨gb339, 3, none⟩ = some (.int .i64 x340003_3) := (blk_cell BK339.out 3).trans rfl
                                  have hcz85_4 : w78.cell? ⟨gb339, 4, none⟩ = some (.bool x340004_3) := (blk_cell BK339.out 4).trans rfl
                                  have hfz85_0 := blk_frozen BK339.out 0
                                  have hfz85_1 := blk_frozen BK339.out 1
                                  have hfz85_2 := blk_frozen BK339.out 2
                                  have hfz85_3 := blk_frozen BK339.out 3
                                  have hfz85_4 := blk_frozen BK339.out 4
                                  try go_wp2
                                  go_roundg k3
                                  case measure => have := HJ7.out; have := HJ20.out; have := HK3.out; omega
                                  case rel => exact ⟨(true), (wrap64 (x14_3 + 1)), (t349), (t350), (t351), (t352), (t353), (by first | rfl | (simp; done) | (simp [*]; done)), (by first | rfl | (simp; done) | (simp [*]; done)), H', ⟨by have := HJ7.out; have := HJ20.out; have := HK3.out; omega⟩, ⟨by (with_reducible repeat (first | refine blk_drewN ?_ _ | refine blk_drew ?_ | refine blk_alloc ?_ _)); refine blk_far ?_ NB331_339.out _; (with_reducible repeat (first | refine blk_drewN ?_ _ | refine blk_drew ?_ | refine blk_alloc ?_ _)); refine blk_far ?_ NB331_339.out _; (with_reducible repeat (first | refine blk_drewN ?_ _ | refine blk_drew ?_ | refine blk_alloc ?_ _)); refine blk_far ?_ NB331_339.out _; (with_reducible repeat (first | refine blk_drewN ?_ _ | refine blk_drew ?_ | refine blk_alloc ?_ _)); refine blk_far ?_ NB331_339.out _; (with_reducible repeat (first | refine blk_drewN ?_ _ | refine blk_drew ?_ | refine blk_alloc ?_ _)); refine blk_far ?_ NB331_339.out _; (with_reducible repeat (first | refine blk_drewN ?_ _ | refine blk_drew ?_ | refine blk_alloc ?_ _)); exact BK331.out⟩, ⟨by (with_reducible repeat (first | refine blk_drewN ?_ _ | refine blk_drew ?_ | refine blk_alloc ?_ _)); refine blk_put (cs := #[.int .i64 t349, .int .i64 t350, .int .i64 t351, .int .i64 t352, .bool x340004_3]) ?_ 4 _ rfl; (with_reducible repeat (first | refine blk_drewN ?_ _ | refine blk_drew ?_ | refine blk_alloc ?_ _)); refine blk_put (cs := #[.int .i64 t349, .int .i64 t350, .int .i64 t351, .int .i64 x340003_3, .bool x340004_3]) ?_ 3 _ rfl; (with_reducible repeat (first | refine blk_drewN ?_ _ | refine blk_drew ?_ | refine blk_alloc ?_ _)); refine blk_put (cs := #[.int .i64 t349, .int .i64 t350, .int .i64 x340002_3, .int .i64 x340003_3, .bool x340004_3]) ?_ 2 _ rfl; (with_reducible repeat (first | refine blk_drewN ?_ _ | refine blk_drew ?_ | refine blk_alloc ?_ _)); refine blk_put (cs := #[.int .i64 t349, .int .i64 x340001_3, .int .i64 x340002_3, .int .i64 x340003_3, .bool x340004_3]) ?_ 1 _ rfl; (with_reducible repeat (first | refine blk_drewN ?_ _ | refine blk_drew ?_ | refine blk_alloc ?_ _)); refine blk_put (cs := #[.int .i64 x340000_3, .int .i64 x340001_3, .int .i64 x340002_3, .int .i64 x340003_3, .bool x340004_3]) ?_ 0 _ rfl; (with_reducible repeat (first | refine blk_drewN ?_ _ | refine blk_drew ?_ | refine blk_alloc ?_ _)); exact BK339.out⟩, ⟨by repeat (first | (with_reducible first | exact HB.out | apply below_alloc | apply pw_below_drewN | apply below_drew1 | refine below_set ?_ GE331.out | refine below_set ?_ GE339.out) | exact HB.out)⟩⟩
                    · rw [if_neg c27] at H
                      exact absurd H (by simp)
                  · rw [if_neg c26] at H
                    have c26b0 : decide (x14_3 < (l3.length : Int)) = false := decide_eq_false c26
                    clear c26
                    obtain rfl := Option.some.inj H
                    have hnb86 := NB339_331.out
                    have hnc86 := NB331_339.out
                    have hcz87_0 : wr.cell? ⟨gb339, 0, none⟩ = some (.int .i64 x340000_3) := (blk_cell BK339.out 0).trans rfl
                    have hcz87_1 : wr.cell? ⟨gb339, 1, none⟩ = some (.int .i64 x340001_3) := (blk_cell BK339.out 1).trans rfl
                    have hcz87_2 : wr.cell? ⟨gb339, 2, none⟩ = some (.int .i64 x340002_3) := (blk_cell BK339.out 2).trans rfl
                    have hcz87_3 : wr.cell? ⟨gb339, 3, none⟩ = some (.int .i64 x340003_3) := (blk_cell BK339.out 3).trans rfl
                    have hcz87_4 : wr.cell? ⟨gb339, 4, none⟩ = some (.bool x340004_3) := (blk_cell BK339.out 4).trans rfl
                    have hfz87_0 := blk_frozen BK339.out 0
                    have hfz87_1 := blk_frozen BK339.out 1
                    have hfz87_2 := blk_frozen BK339.out 2
                    have hfz87_3 := blk_frozen BK339.out 3
                    have hfz87_4 := blk_frozen BK339.out 4
                    go_wp2
                    go_ret
                    exact ⟨by first | rfl | (simp [errW_none, errW_some] <;> rfl) | (simp [*, errW_none, errW_some] <;> rfl), by repeat (first | (with_reducible first | exact HB.out | apply below_alloc | apply pw_below_drewN | apply below_drew1 | refine below_set ?_ GE331.out | refine below_set ?_ GE339.out) | exact HB.out)⟩

end Go.Proofs.YtccddkkijhedhaaDoor.PA
