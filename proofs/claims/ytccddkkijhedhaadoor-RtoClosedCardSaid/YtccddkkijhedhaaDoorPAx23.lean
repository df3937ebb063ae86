-- Printed by a program of this session over the kit's print (some functions are told by hand). Not trusted: Lean checks it.
import Derived.Test.YtccddkkijhedhaaDoorPAx0
import Derived.Test.YtccddkkijhedhaaDoorPAx4
import Derived.Test.YtccddkkijhedhaaDoorPAx7
import Derived.Test.YtccddkkijhedhaaDoorPAx8
import Derived.Test.YtccddkkijhedhaaDoorPAx9
import Derived.Test.YtccddkkijhedhaaDoorPAx21
import Derived.Test.YtccddkkijhedhaaDoorPAx22
namespace Go.Proofs.YtccddkkijhedhaaDoor.PA
open Go.RowKit Go.Proofs.YtccddkkijhedhaaDoor Go.Proofs.YtccddkkijhedhaaDoorW.PrintWords Go.Proofs.YtccddkkijhedhaaDoorW.PrintLast Go.Proofs.YtccddkkijhedhaaDoorW.PrintMore
attribute [local go_sem] max2_int min2_int max_two min_two max_three min_three max_four min_four   -- for this text's walks alone
set_option linter.unusedVariables false
set_option linter.unusedSimpArgs false

/-! ### annexlaw17_RtoClosed: function 8 -/
mutual
def annexlaw17_RtoClosed.j0 : Nat → List Int → Bool → Int → Int → Int → Int → Int → Int → Int → Bool → Option (Bool)
  | 0, _, _, _, _, _, _, _, _, _, _ => none
  | k + 1, x2, x8, x270000, x270001, x270002, x271000, x271001, x271002, x271003, x271004 => (rto_Wait.f x270000 x270001 x270002 x271000 x271001 x271002 x271003 x271004).bind fun t274 => (if x8 = true then (annexlaw17_RtoClosed.l0 k x2 t274 0 x270000 x270001 x270002 x271000 x271001 x271002 x271003 x271004) else ((rto_Sample.f x270000 x270001 x270002 x271000 x271001 x271002 x271003 x271004 7).bind fun bt275 => ((rto_Expire.f x270000 x270001 x270002 x271000 x271001 x271002 x271003 x271004).bind fun bt281 => ((annexref_SameEst.f bt275.1 bt275.2.1 bt275.2.2.1 bt275.2.2.2.1 bt275.2.2.2.2 0 0 0 0 false).bind fun t287 => ((annexref_SameEst.f bt281.1 bt281.2.1 bt281.2.2.1 bt281.2.2.2.1 bt281.2.2.2.2 0 0 0 0 false).bind fun t288 => (if t287 = true then (if t288 = true then (some (t274 == 0)) else (some false)) else (some false)))))))
def annexlaw17_RtoClosed.l0 : Nat → List Int → Int → Int → Int → Int → Int → Int → Int → Int → Int → Bool → Option (Bool)
  | 0, _, _, _, _, _, _, _, _, _, _, _ => none
  | k + 1, x2, x9, x14, x270000, x270001, x270002, x271000, x271001, x271002, x271003, x271004 => if x14 < (x2.length : Int) then (if x9 < x270000 then (annexlaw17_RtoClosed.j2 k x2 x14 true x270000 x270001 x270002 x271000 x271001 x271002 x271003 x271004) else (annexlaw17_RtoClosed.j2 k x2 x14 (decide (x9 > x270002)) x270000 x270001 x270002 x271000 x271001 x271002 x271003 x271004)) else (if x9 ≥ x270000 then (some (decide (x9 ≤ x270002))) else (some false))
def annexlaw17_RtoClosed.j2 : Nat → List Int → Int → Bool → Int → Int → Int → Int → Int → Int → Int → Bool → Option (Bool)
  | 0, _, _, _, _, _, _, _, _, _, _, _ => none
  | k + 1, x2, x14, x65, x270000, x270001, x270002, x271000, x271001, x271002, x271003, x271004 => if x65 = true then (some false) else (if 0 ≤ x14 then (if x14 < (x2.length : Int) then (if (rd x2 x14) < 0 then ((rto_Expire.f x270000 x270001 x270002 x271000 x271001 x271002 x271003 x271004).bind fun bt290 => (annexlaw17_RtoClosed.j3 k x2 x14 x270000 x270001 x270002 bt290.1 bt290.2.1 bt290.2.2.1 bt290.2.2.2.1 bt290.2.2.2.2)) else ((rto_Sample.f x270000 x270001 x270002 x271000 x271001 x271002 x271003 x271004 (rd x2 x14)).bind fun bt296 => (annexlaw17_RtoClosed.j3 k x2 x14 x270000 x270001 x270002 bt296.1 bt296.2.1 bt296.2.2.1 bt296.2.2.2.1 bt296.2.2.2.2))) else (none)) else (none))
def annexlaw17_RtoClosed.j3 : Nat → List Int → Int → Int → Int → Int → Int → Int → Int → Int → Bool → Option (Bool)
  | 0, _, _, _, _, _, _, _, _, _, _ => none
  | k + 1, x2, x14, x270000, x270001, x270002, x271000, x271001, x271002, x271003, x271004 => (annexlaw17_may.f x270000 x270001 x270002 x271000 x271001 x271002 x271003 x271004).bind fun t301 => ((rto_Wait.f x270000 x270001 x270002 x271000 x271001 x271002 x271003 x271004).bind fun t302 => (if t301 = true then (if 0 ≤ x14 then (if x14 < (x2.length : Int) then (if (rd x2 x14) ≥ 0 then (if t302 = x271002 then (if x271004 = true then (if x271003 = 0 then (annexlaw17_RtoClosed.l0 k x2 t302 (wrap64 (x14 + 1)) x270000 x270001 x270002 x271000 x271001 x271002 x271003 x271004) else (some false)) else (some false)) else (some false)) else (annexlaw17_RtoClosed.l0 k x2 t302 (wrap64 (x14 + 1)) x270000 x270001 x270002 x271000 x271001 x271002 x271003 x271004)) else (none)) else (none)) else (some false)))
end
def annexlaw17_RtoClosed.f (k : Nat) (a0_0 : Int) (a0_1 : Int) (a0_2 : Int) (a1_0 : Int) (a1_1 : Int) (a1_2 : Int) (a1_3 : Int) (a1_4 : Bool) (l2 : List Int) : Option (Bool) := (annexlaw17_known.f).bind fun t271 => (if t271 = true then ((annexlaw17_right.f a0_0 a0_1 a0_2).bind fun t272 => (if t272 = true then ((annexlaw17_may.f a0_0 a0_1 a0_2 a1_0 a1_1 a1_2 a1_3 a1_4).bind fun t273 => (annexlaw17_RtoClosed.j0 k l2 t273 a0_0 a0_1 a0_2 a1_0 a1_1 a1_2 a1_3 a1_4)) else (annexlaw17_RtoClosed.j0 k l2 false a0_0 a0_1 a0_2 a1_0 a1_1 a1_2 a1_3 a1_4))) else (some false))
theorem annexlaw17_RtoClosed.mono_l : ∀ k, (∀ y0 y1 y2 y3 y4 y5 y6 y7 y8 y9, LeO (annexlaw17_RtoClosed.j0 k y0 y1 y2 y3 y4 y5 y6 y7 y8 y9) (annexlaw17_RtoClosed.j0 (k + 1) y0 y1 y2 y3 y4 y5 y6 y7 y8 y9)) ∧ (∀ y0 y1 y2 y3 y4 y5 y6 y7 y8 y9 y10, LeO (annexlaw17_RtoClosed.l0 k y0 y1 y2 y3 y4 y5 y6 y7 y8 y9 y10) (annexlaw17_RtoClosed.l0 (k + 1) y0 y1 y2 y3 y4 y5 y6 y7 y8 y9 y10)) ∧ (∀ y0 y1 y2 y3 y4 y5 y6 y7 y8 y9 y10, LeO (annexlaw17_RtoClosed.j2 k y0 y1 y2 y3 y4 y5 y6 y7 y8 y9 y10) (annexlaw17_RtoClosed.j2 (k + 1) y0 y1 y2 y3 y4 y5 y6 y7 y8 y9 y10)) ∧ (∀ y0 y1 y2 y3 y4 y5 y6 y7 y8 y9, LeO (annexlaw17_RtoClosed.j3 k y0 y1 y2 y3 y4 y5 y6 y7 y8 y9) (annexlaw17_RtoClosed.j3 (k + 1) y0 y1 y2 y3 y4 y5 y6 y7 y8 y9))
  | 0 => ⟨fun _ _ _ _ _ _ _ _ _ _ r h => by simp [annexlaw17_RtoClosed.j0] at h, fun _ _ _ _ _ _ _ _ _ _ _ r h => by simp [annexlaw17_RtoClosed.l0] at h, fun _ _ _ _ _ _ _ _ _ _ _ r h => by simp [annexlaw17_RtoClosed.j2] at h, fun _ _ _ _ _ _ _ _ _ _ r h => by simp [annexlaw17_RtoClosed.j3] at h⟩
  | k + 1 => by
    obtain ⟨ih0, ih1, ih2, ih3⟩ := annexlaw17_RtoClosed.mono_l k
    refine ⟨?_, ?_, ?_, ?_⟩
    · intro y0 y1 y2 y3 y4 y5 y6 y7 y8 y9
      unfold annexlaw17_RtoClosed.j0
      repeat' first
      | (with_reducible exact ih0 _ _ _ _ _ _ _ _ _ _)
      | (with_reducible exact ih1 _ _ _ _ _ _ _ _ _ _ _)
      | (with_reducible exact ih2 _ _ _ _ _ _ _ _ _ _ _)
      | (with_reducible exact ih3 _ _ _ _ _ _ _ _ _ _)
      | (with_reducible exact LeO.refl _)
      | (with_reducible exact LeO.none _)
      | (with_reducible refine LeO.ite ?_ ?_)
      | (with_reducible refine LeO.bind ?_ (fun _ => ?_))
      | exact ih0 _ _ _ _ _ _ _ _ _ _
      | exact ih1 _ _ _ _ _ _ _ _ _ _ _
      | exact ih2 _ _ _ _ _ _ _ _ _ _ _
      | exact ih3 _ _ _ _ _ _ _ _ _ _
      | exact LeO.none _
      | refine LeO.ite ?_ ?_
      | refine LeO.bind ?_ (fun _ => ?_)
    · intro y0 y1 y2 y3 y4 y5 y6 y7 y8 y9 y10
      unfold annexlaw17_RtoClosed.l0
      repeat' first
      | (with_reducible exact ih0 _ _ _ _ _ _ _ _ _ _)
      | (with_reducible exact ih1 _ _ _ _ _ _ _ _ _ _ _)
      | (with_reducible exact ih2 _ _ _ _ _ _ _ _ _ _ _)
      | (with_reducible exact ih3 _ _ _ _ _ _ _ _ _ _)
      | (with_reducible exact LeO.refl _)
      | (with_reducible exact LeO.none _)
      | (with_reducible refine LeO.ite ?_ ?_)
      | (with_reducible refine LeO.bind ?_ (fun _ => ?_))
      | exact ih0 _ _ _ _ _ _ _ _ _ _
      | exact ih1 _ _ _ _ _ _ _ _ _ _ _
      | exact ih2 _ _ _ _ _ _ _ _ _ _ _
      | exact ih3 _ _ _ _ _ _ _ _ _ _
      | exact LeO.none _
      | refine LeO.ite ?_ ?_
      | refine LeO.bind ?_ (fun _ => ?_)
    · intro y0 y1 y2 y3 y4 y5 y6 y7 y8 y9 y10
      unfold annexlaw17_RtoClosed.j2
      repeat' first
      | (with_reducible exact ih0 _ _ _ _ _ _ _ _ _ _)
      | (with_reducible exact ih1 _ _ _ _ _ _ _ _ _ _ _)
      | (with_reducible exact ih2 _ _ _ _ _ _ _ _ _ _ _)
      | (with_reducible exact ih3 _ _ _ _ _ _ _ _ _ _)
      | (with_reducible exact LeO.refl _)
      | (with_reducible exact LeO.none _)
      | (with_reducible refine LeO.ite ?_ ?_)
      | (with_reducible refine LeO.bind ?_ (fun _ => ?_))
      | exact ih0 _ _ _ _ _ _ _ _ _ _
      | exact ih1 _ _ _ _ _ _ _ _ _ _ _
      | exact ih2 _ _ _ _ _ _ _ _ _ _ _
      | exact ih3 _ _ _ _ _ _ _ _ _ _
      | exact LeO.none _
      | refine LeO.ite ?_ ?_
      | refine LeO.bind ?_ (fun _ => ?_)
    · intro y0 y1 y2 y3 y4 y5 y6 y7 y8 y9
      unfold annexlaw17_RtoClosed.j3
      repeat' first
      | (with_reducible exact ih0 _ _ _ _ _ _ _ _ _ _)
      | (with_reducible exact ih1 _ _ _ _ _ _ _ _ _ _ _)
      | (with_reducible exact ih2 _ _ _ _ _ _ _ _ _ _ _)
      | (with_reducible exact ih3 _ _ _ _ _ _ _ _ _ _)
      | (with_reducible exact LeO.refl _)
      | (with_reducible exact LeO.none _)
      | (with_reducible refine LeO.ite ?_ ?_)
      | (with_reducible refine LeO.bind ?_ (fun _ => ?_))
      | exact ih0 _ _ _ _ _ _ _ _ _ _
      | exact ih1 _ _ _ _ _ _ _ _ _ _ _
      | exact ih2 _ _ _ _ _ _ _ _ _ _ _
      | exact ih3 _ _ _ _ _ _ _ _ _ _
      | exact LeO.none _
      | refine LeO.ite ?_ ?_
      | refine LeO.bind ?_ (fun _ => ?_)
theorem annexlaw17_RtoClosed.mono : ∀ a0 a1 a2 a3 a4 a5 a6 a7 a8 k, LeO (annexlaw17_RtoClosed.f k a0 a1 a2 a3 a4 a5 a6 a7 a8) (annexlaw17_RtoClosed.f (k + 1) a0 a1 a2 a3 a4 a5 a6 a7 a8) := by
  intro a0 a1 a2 a3 a4 a5 a6 a7 a8 k
  obtain ⟨ih0, ih1, ih2, ih3⟩ := annexlaw17_RtoClosed.mono_l k
  unfold annexlaw17_RtoClosed.f
  repeat' first
      | (with_reducible exact ih0 _ _ _ _ _ _ _ _ _ _)
      | (with_reducible exact ih1 _ _ _ _ _ _ _ _ _ _ _)
      | (with_reducible exact ih2 _ _ _ _ _ _ _ _ _ _ _)
      | (with_reducible exact ih3 _ _ _ _ _ _ _ _ _ _)
      | (with_reducible exact LeO.refl _)
      | (with_reducible exact LeO.none _)
      | (with_reducible refine LeO.ite ?_ ?_)
      | (with_reducible refine LeO.bind ?_ (fun _ => ?_))
      | exact ih0 _ _ _ _ _ _ _ _ _ _
      | exact ih1 _ _ _ _ _ _ _ _ _ _ _
      | exact ih2 _ _ _ _ _ _ _ _ _ _ _
      | exact ih3 _ _ _ _ _ _ _ _ _ _
      | exact LeO.none _
      | refine LeO.ite ?_ ?_
      | refine LeO.bind ?_ (fun _ => ?_)
def annexlaw17_RtoClosed.T19 : Bool × List (List Nat × List Nat) := (true, [([], []), ([], []), ([], []), ([], []), ([2, 3], [2, 3]), ([4], [4]), ([0, 1, 5], [0, 1, 5]), ([6, 6, 0, 1, 2, 3, 4, 5, 6], [6])])
def annexlaw17_RtoClosed.B19 : List Nat := [0, 0, 0, 0, 12, 28, 63, 127]
theorem annexlaw17_RtoClosed.tab19 : rtab .any (opsOf Tryd.f8 19) = annexlaw17_RtoClosed.T19 := by kernel_rfl
theorem annexlaw17_RtoClosed.bits19 : waitsOk annexlaw17_RtoClosed.T19.2 annexlaw17_RtoClosed.B19 = true := by kernel_rfl
set_option maxHeartbeats 8000000 in
set_option maxRecDepth 100000 in
theorem annexlaw17_RtoClosed.calls (k : Nat) (a0_0 : Int) (a0_1 : Int) (a0_2 : Int) (a1_0 : Int) (a1_1 : Int) (a1_2 : Int) (a1_3 : Int) (a1_4 : Bool) (A2 : Option Addr) (c2 : Nat) (l2 : List Int) (r : Bool) (w : World) (hG : Tied w) (hr2 : Kd.C (Kd.int .i64) w A2 l2.length l2) (hc2 : l2.length ≤ c2) (h : annexlaw17_RtoClosed.f k a0_0 a0_1 a0_2 a1_0 a1_1 a1_2 a1_3 a1_4 l2 = some r) :
    Calls Tryd.prog 8 #[.agg #[.int .i64 a0_0, .int .i64 a0_1, .int .i64 a0_2], .agg #[.int .i64 a1_0, .int .i64 a1_1, .int .i64 a1_2, .int .i64 a1_3, .bool a1_4], .slice A2 l2.length c2] w fun e w' => e = .returned (.bool r) ∧ Below w.heap.size w w' := by
  have hu23 := Tryd.underlying23
  have hu26 := Tryd.underlying26
  have HG := Aside0.mk hG
  clear hG
  have HR2 := Aside0.mk hr2
  have HC2 := Aside0.mk hc2
  clear hr2 hc2
  have HB := Aside0.mk (Below.refl w.heap.size w)
  have H : ((annexlaw17_known.f).bind fun t271 => (if t271 = true then ((annexlaw17_right.f a0_0 a0_1 a0_2).bind fun t272 => (if t272 = true then ((annexlaw17_may.f a0_0 a0_1 a0_2 a1_0 a1_1 a1_2 a1_3 a1_4).bind fun t273 => (annexlaw17_RtoClosed.j0 k l2 t273 a0_0 a0_1 a0_2 a1_0 a1_1 a1_2 a1_3 a1_4)) else (annexlaw17_RtoClosed.j0 k l2 false a0_0 a0_1 a0_2 a1_0 a1_1 a1_2 a1_3 a1_4))) else (some false))) = some r := h
  clear h
  replace H := Option.bind_eq_some_iff.mp H
  obtain ⟨t271, A40, H⟩ := H
  replace H : (if t271 = true then ((annexlaw17_right.f a0_0 a0_1 a0_2).bind fun t272 => (if t272 = true then ((annexlaw17_may.f a0_0 a0_1 a0_2 a1_0 a1_1 a1_2 a1_3 a1_4).bind fun t273 => (annexlaw17_RtoClosed.j0 k l2 t273 a0_0 a0_1 a0_2 a1_0 a1_1 a1_2 a1_3 a1_4)) else (annexlaw17_RtoClosed.j0 k l2 false a0_0 a0_1 a0_2 a1_0 a1_1 a1_2 a1_3 a1_4))) else (some false)) = some r := H
  have A4 := Aside0.mk A40
  clear A40
  by_cases c5 : t271 = true
  · subst c5
    have H1 : ((annexlaw17_right.f a0_0 a0_1 a0_2).bind fun t272 => (if t272 = true then ((annexlaw17_may.f a0_0 a0_1 a0_2 a1_0 a1_1 a1_2 a1_3 a1_4).bind fun t273 => (annexlaw17_RtoClosed.j0 k l2 t273 a0_0 a0_1 a0_2 a1_0 a1_1 a1_2 a1_3 a1_4)) else (annexlaw17_RtoClosed.j0 k l2 false a0_0 a0_1 a0_2 a1_0 a1_1 a1_2 a1_3 a1_4))) = some r := by rw [if_pos rfl] at H; exact H
    clear H
    have H := H1
    clear H1
    have HC6 := Aside0.mk H
    clear H
    go_enter Tryd.func8, Tryd.ntmps8
    go_upto_region 4 with (first | ((with_reducible refine gate_dst (N := 3) rfl ?_); refine box_event ?hg (N := 3) ?hd (cs := #[.int .i64 a0_0, .int .i64 a0_1, .int .i64 a0_2]) (t := 23) ?hr ?_; (case hd => rfl); (case hg => rfl); (case hr => first | (go_simp; done) | (go_simp; rfl)); intro gb269 hg w7 hbox hb; have n0_ := Aside0.mk (below_step (by repeat (first | (with_reducible first | exact HB.out | apply below_alloc | apply pw_below_drewN | apply below_drew1) | exact HB.out)) hb); have n1_ := Aside0.mk (hbox); have n2_ := Aside0.mk ((by rw [hg]; exact (below_size (by repeat (first | (with_reducible first | exact HB.out | apply below_alloc | apply pw_below_drewN | apply below_drew1) | exact HB.out))) : w.heap.size ≤ gb269)); have n3_ := Aside0.mk ((by rw [hg]; exact (below_size (by repeat (first | (with_reducible first | exact HB.out | apply below_alloc | apply pw_below_drewN | apply below_drew1) | exact HB.out))) : w.heap.size ≤ gb269)); clear HB; have HB := n0_; have BK269 := n1_; have GW269 := n2_; have GE269 := n3_; clear n0_ n1_ n2_ n3_; clear hb hbox hg) | ((with_reducible refine gate_dst (N := 4) rfl ?_); refine box_event ?hg (N := 4) ?hd (cs := #[.int .i64 a1_0, .int .i64 a1_1, .int .i64 a1_2, .int .i64 a1_3, .bool a1_4]) (t := 26) ?hr ?_; (case hd => rfl); (case hg => rfl); (case hr => first | (go_simp; done) | (go_simp; rfl)); intro gb270 hg w8 hbox hb; have n0_ := Aside0.mk (blk_below (g := gb269) (o := .cells #[.int .i64 a0_0, .int .i64 a0_1, .int .i64 a0_2] 23 (0, 0)) (by (with_reducible repeat (first | refine blk_drewN ?_ _ | refine blk_drew ?_ | refine blk_alloc ?_ _)); exact BK269.out) hb); have n1_ := Aside0.mk (below_step (by repeat (first | (with_reducible first | exact HB.out | apply below_alloc | apply pw_below_drewN | apply below_drew1 | refine below_set ?_ GE269.out) | exact HB.out)) hb); have n2_ := Aside0.mk (hbox); have n3_ := Aside0.mk ((by rw [hg]; exact (below_size (by repeat (first | (with_reducible first | exact HB.out | apply below_alloc | apply pw_below_drewN | apply below_drew1 | refine below_set ?_ GE269.out) | exact HB.out))) : w.heap.size ≤ gb270)); have n4_ := Aside0.mk ((by rw [hg]; exact (below_size (by repeat (first | (with_reducible first | exact HB.out | apply below_alloc | apply pw_below_drewN | apply below_drew1 | refine below_set ?_ GE269.out) | exact HB.out))) : w.heap.size ≤ gb270)); have n5_ := Aside0.mk ((by rw [hg]; exact Nat.ne_of_lt (blk_lt (g := gb269) (o := .cells #[.int .i64 a0_0, .int .i64 a0_1, .int .i64 a0_2] 23 (0, 0)) (by (with_reducible repeat (first | refine blk_drewN ?_ _ | refine blk_drew ?_ | refine blk_alloc ?_ _)); exact BK269.out)) : gb269 ≠ gb270)); have n6_ := Aside0.mk ((by rw [hg]; exact Nat.ne_of_gt (blk_lt (g := gb269) (o := .cells #[.int .i64 a0_0, .int .i64 a0_1, .int .i64 a0_2] 23 (0, 0)) (by (with_reducible repeat (first | refine blk_drewN ?_ _ | refine blk_drew ?_ | refine blk_alloc ?_ _)); exact BK269.out)) : gb270 ≠ gb269)); clear BK269; clear HB; have BK269 := n0_; have HB := n1_; have BK270 := n2_; have GW270 := n3_; have GE270 := n4_; have NB269_270 := n5_; have NB270_269 := n6_; clear n0_ n1_ n2_ n3_ n4_ n5_ n6_; clear hb hbox hg) | ((with_reducible refine gate_callee (f := 12) rfl ?_); refine goesL_ (some 15) rfl rfl Tryd.func12 (by kernel_rfl) rfl #[] rfl (by (try simp only [List.map_toArray, List.map_cons, List.map_nil]); first | done | rfl | (simp only [List.length_drop, List.length_take]; rfl)) ?_; (with_reducible refine (annexlaw17_known.calls  true _ ?side1 A4.out).mono ?_); (case side1 => exact Tied.below HG.out (by repeat (first | (with_reducible first | exact HB.out | apply below_alloc | apply pw_below_drewN | apply below_drew1 | refine below_set ?_ GE269.out | refine below_set ?_ GE270.out) | exact HB.out))); rintro e w9 ⟨rfl, hb⟩; refine ⟨_, rfl, ?_⟩; have n0_ := Aside0.mk (blk_below (g := gb269) (o := .cells #[.int .i64 a0_0, .int .i64 a0_1, .int .i64 a0_2] 23 (0, 0)) (by (with_reducible repeat (first | refine blk_drewN ?_ _ | refine blk_drew ?_ | refine blk_alloc ?_ _)); exact BK269.out) hb); have n1_ := Aside0.mk (blk_below (g := gb270) (o := .cells #[.int .i64 a1_0, .int .i64 a1_1, .int .i64 a1_2, .int .i64 a1_3, .bool a1_4] 26 (0, 0)) (by (with_reducible repeat (first | refine blk_drewN ?_ _ | refine blk_drew ?_ | refine blk_alloc ?_ _)); exact BK270.out) hb); have n2_ := Aside0.mk (below_step (by repeat (first | (with_reducible first | exact HB.out | apply below_alloc | apply pw_below_drewN | apply below_drew1 | refine below_set ?_ GE269.out | refine below_set ?_ GE270.out) | exact HB.out)) hb); clear BK269; clear BK270; clear HB; have BK269 := n0_; have BK270 := n1_; have HB := n2_; clear n0_ n1_ n2_; (try clear hb); (try clear hb2); (try clear hk); (try clear hi)))
    (try simp only [Act.put, List.setIfInBounds_toArray, List.set_cons_zero, List.set_cons_succ])
    go_cut [8] (fun v8 wc => ∃ (kq : Nat) (x8_5 : Bool), v8 = .bool x8_5 ∧ Aside0 (annexlaw17_RtoClosed.j0 kq l2 x8_5 a0_0 a0_1 a0_2 a1_0 a1_1 a1_2 a1_3 a1_4 = some r) ∧ Aside0 (kq ≤ k) ∧ Aside0 (wc.heap[gb269]? = some (.cells #[.int .i64 a0_0, .int .i64 a0_1, .int .i64 a0_2] 23 (0, 0))) ∧ Aside0 (wc.heap[gb270]? = some (.cells #[.int .i64 a1_0, .int .i64 a1_1, .int .i64 a1_2, .int .i64 a1_3, .bool a1_4] 26 (0, 0))) ∧ Aside0 (Below w.heap.size w wc))
    case first =>
      have H := HC6.out
      clear HC6
      replace H := Option.bind_eq_some_iff.mp H
      obtain ⟨t272, A100, H⟩ := H
      replace H : (if t272 = true then ((annexlaw17_may.f a0_0 a0_1 a0_2 a1_0 a1_1 a1_2 a1_3 a1_4).bind fun t273 => (annexlaw17_RtoClosed.j0 k l2 t273 a0_0 a0_1 a0_2 a1_0 a1_1 a1_2 a1_3 a1_4)) else (annexlaw17_RtoClosed.j0 k l2 false a0_0 a0_1 a0_2 a1_0 a1_1 a1_2 a1_3 a1_4)) = some r := H
      have A10 := Aside0.mk A100
      clear A100
      by_cases c11 : t272 = true
      · subst c11
        have H1 : ((annexlaw17_may.f a0_0 a0_1 a0_2 a1_0 a1_1 a1_2 a1_3 a1_4).bind fun t273 => (annexlaw17_RtoClosed.j0 k l2 t273 a0_0 a0_1 a0_2 a1_0 a1_1 a1_2 a1_3 a1_4)) = some r := by rw [if_pos rfl] at H; exact H
        clear H
        have H := H1
        clear H1
        replace H := Option.bind_eq_some_iff.mp H
        obtain ⟨t273, A120, H⟩ := H
        replace H : (annexlaw17_RtoClosed.j0 k l2 t273 a0_0 a0_1 a0_2 a1_0 a1_1 a1_2 a1_3 a1_4) = some r := H
        have A12 := Aside0.mk A120
        clear A120
        have H' := Aside0.mk H
        clear H
        have hnb13 := NB269_270.out
        have hnc13 := NB270_269.out
        have hcz14_0 : w9.cell? ⟨gb269, 0, none⟩ = some (.int .i64 a0_0) := (blk_cell BK269.out 0).trans rfl
        have hcz14_1 : w9.cell? ⟨gb269, 1, none⟩ = some (.int .i64 a0_1) := (blk_cell BK269.out 1).trans rfl
        have hcz14_2 : w9.cell? ⟨gb269, 2, none⟩ = some (.int .i64 a0_2) := (blk_cell BK269.out 2).trans rfl
        have hfz14_0 := blk_frozen BK269.out 0
        have hfz14_1 := blk_frozen BK269.out 1
        have hfz14_2 := blk_frozen BK269.out 2
        go_wp2_with (first | ((with_reducible refine gate_callee (f := 23) rfl ?_); refine goesL_ (some 19) rfl rfl Tryd.func23 (by kernel_rfl) rfl #[.agg #[.int .i64 a0_0, .int .i64 a0_1, .int .i64 a0_2]] rfl (by (try simp only [List.map_toArray, List.map_cons, List.map_nil]); first | done | rfl | (simp only [List.length_drop, List.length_take]; rfl)) ?_; (with_reducible refine (annexlaw17_right.calls a0_0 a0_1 a0_2 true _ A10.out).mono ?_); rintro e w15 ⟨rfl, hb⟩; refine ⟨_, rfl, ?_⟩; have n0_ := Aside0.mk (blk_below (g := gb269) (o := .cells #[.int .i64 a0_0, .int .i64 a0_1, .int .i64 a0_2] 23 (0, 0)) (by (with_reducible repeat (first | refine blk_drewN ?_ _ | refine blk_drew ?_ | refine blk_alloc ?_ _)); exact BK269.out) hb); have n1_ := Aside0.mk (blk_below (g := gb270) (o := .cells #[.int .i64 a1_0, .int .i64 a1_1, .int .i64 a1_2, .int .i64 a1_3, .bool a1_4] 26 (0, 0)) (by (with_reducible repeat (first | refine blk_drewN ?_ _ | refine blk_drew ?_ | refine blk_alloc ?_ _)); exact BK270.out) hb); have n2_ := Aside0.mk (below_step (by repeat (first | (with_reducible first | exact HB.out | apply below_alloc | apply pw_below_drewN | apply below_drew1 | refine below_set ?_ GE269.out | refine below_set ?_ GE270.out) | exact HB.out)) hb); clear BK269; clear BK270; clear HB; have BK269 := n0_; have BK270 := n1_; have HB := n2_; clear n0_ n1_ n2_; (try clear hb); (try clear hb2); (try clear hk); (try clear hi); have hcz16_0 : w15.cell? ⟨gb269, 0, none⟩ = some (.int .i64 a0_0) := (blk_cell BK269.out 0).trans rfl; have hcz16_1 : w15.cell? ⟨gb269, 1, none⟩ = some (.int .i64 a0_1) := (blk_cell BK269.out 1).trans rfl; have hcz16_2 : w15.cell? ⟨gb269, 2, none⟩ = some (.int .i64 a0_2) := (blk_cell BK269.out 2).trans rfl; have hfz16_0 := blk_frozen BK269.out 0; have hfz16_1 := blk_frozen BK269.out 1; have hfz16_2 := blk_frozen BK269.out 2; have hcz17_0 : w15.cell? ⟨gb270, 0, none⟩ = some (.int .i64 a1_0) := (blk_cell BK270.out 0).trans rfl; have hcz17_1 : w15.cell? ⟨gb270, 1, none⟩ = some (.int .i64 a1_1) := (blk_cell BK270.out 1).trans rfl; have hcz17_2 : w15.cell? ⟨gb270, 2, none⟩ = some (.int .i64 a1_2) := (blk_cell BK270.out 2).trans rfl; have hcz17_3 : w15.cell? ⟨gb270, 3, none⟩ = some (.int .i64 a1_3) := (blk_cell BK270.out 3).trans rfl; have hcz17_4 : w15.cell? ⟨gb270, 4, none⟩ = some (.bool a1_4) := (blk_cell BK270.out 4).trans rfl; have hfz17_0 := blk_frozen BK270.out 0; have hfz17_1 := blk_frozen BK270.out 1; have hfz17_2 := blk_frozen BK270.out 2; have hfz17_3 := blk_frozen BK270.out 3; have hfz17_4 := blk_frozen BK270.out 4) | (go_at_call 24; (with_reducible refine (annexlaw17_may.calls a0_0 a0_1 a0_2 a1_0 a1_1 a1_2 a1_3 a1_4 t273 _ A12.out).mono ?_); rintro e w18 ⟨rfl, hb⟩; have n0_ := Aside0.mk (blk_below (g := gb269) (o := .cells #[.int .i64 a0_0, .int .i64 a0_1, .int .i64 a0_2] 23 (0, 0)) (by (with_reducible repeat (first | refine blk_drewN ?_ _ | refine blk_drew ?_ | refine blk_alloc ?_ _)); exact BK269.out) hb); have n1_ := Aside0.mk (blk_below (g := gb270) (o := .cells #[.int .i64 a1_0, .int .i64 a1_1, .int .i64 a1_2, .int .i64 a1_3, .bool a1_4] 26 (0, 0)) (by (with_reducible repeat (first | refine blk_drewN ?_ _ | refine blk_drew ?_ | refine blk_alloc ?_ _)); exact BK270.out) hb); have n2_ := Aside0.mk (below_step (by repeat (first | (with_reducible first | exact HB.out | apply below_alloc | apply pw_below_drewN | apply below_drew1 | refine below_set ?_ GE269.out | refine below_set ?_ GE270.out) | exact HB.out)) hb); clear BK269; clear BK270; clear HB; have BK269 := n0_; have BK270 := n1_; have HB := n2_; clear n0_ n1_ n2_; (try clear hb); (try clear hb2); (try clear hk); (try clear hi)))
        go_meet
        case rel => exact ⟨_, (t273), (by first | rfl | (simp; done) | (simp [*]; done)), H', ⟨by first | omega | exact Nat.le_refl _⟩, ⟨by (with_reducible repeat (first | refine blk_drewN ?_ _ | refine blk_drew ?_ | refine blk_alloc ?_ _)); exact BK269.out⟩, ⟨by (with_reducible repeat (first | refine blk_drewN ?_ _ | refine blk_drew ?_ | refine blk_alloc ?_ _)); exact BK270.out⟩, ⟨by repeat (first | (with_reducible first | exact HB.out | apply below_alloc | apply pw_below_drewN | apply below_drew1 | refine below_set ?_ GE269.out | refine below_set ?_ GE270.out) | exact HB.out)⟩⟩
      · replace c11 := Bool.eq_false_iff.mpr c11
        subst c11
        have H1 : (annexlaw17_RtoClosed.j0 k l2 false a0_0 a0_1 a0_2 a1_0 a1_1 a1_2 a1_3 a1_4) = some r := by rw [if_neg (show ¬ (false = true) by decide)] at H; exact H
        clear H
        have H := H1
        clear H1
        have H' := Aside0.mk H
        clear H
        have hnb19 := NB269_270.out
        have hnc19 := NB270_269.out
        have hcz20_0 : w9.cell? ⟨gb269, 0, none⟩ = some (.int .i64 a0_0) := (blk_cell BK269.out 0).trans rfl
        have hcz20_1 : w9.cell? ⟨gb269, 1, none⟩ = some (.int .i64 a0_1) := (blk_cell BK269.out 1).trans rfl
        have hcz20_2 : w9.cell? ⟨gb269, 2, none⟩ = some (.int .i64 a0_2) := (blk_cell BK269.out 2).trans rfl
        have hfz20_0 := blk_frozen BK269.out 0
        have hfz20_1 := blk_frozen BK269.out 1
        have hfz20_2 := blk_frozen BK269.out 2
        go_wp2_with (first | ((with_reducible refine gate_callee (f := 23) rfl ?_); refine goesL_ (some 19) rfl rfl Tryd.func23 (by kernel_rfl) rfl #[.agg #[.int .i64 a0_0, .int .i64 a0_1, .int .i64 a0_2]] rfl (by (try simp only [List.map_toArray, List.map_cons, List.map_nil]); first | done | rfl | (simp only [List.length_drop, List.length_take]; rfl)) ?_; (with_reducible refine (annexlaw17_right.calls a0_0 a0_1 a0_2 false _ A10.out).mono ?_); rintro e w21 ⟨rfl, hb⟩; refine ⟨_, rfl, ?_⟩; have n0_ := Aside0.mk (blk_below (g := gb269) (o := .cells #[.int .i64 a0_0, .int .i64 a0_1, .int .i64 a0_2] 23 (0, 0)) (by (with_reducible repeat (first | refine blk_drewN ?_ _ | refine blk_drew ?_ | refine blk_alloc ?_ _)); exact BK269.out) hb); have n1_ := Aside0.mk (blk_below (g := gb270) (o := .cells #[.int .i64 a1_0, .int .i64 a1_1, .int .i64 a1_2, .int .i64 a1_3, .bool a1_4] 26 (0, 0)) (by (with_reducible repeat (first | refine blk_drewN ?_ _ | refine blk_drew ?_ | refine blk_alloc ?_ _)); exact BK270.out) hb); have n2_ := Aside0.mk (below_step (by repeat (first | (with_reducible first | exact HB.out | apply below_alloc | apply pw_below_drewN | apply below_drew1 | refine below_set ?_ GE269.out | refine below_set ?_ GE270.out) | exact HB.out)) hb); clear BK269; clear BK270; clear HB; have BK269 := n0_; have BK270 := n1_; have HB := n2_; clear n0_ n1_ n2_; (try clear hb); (try clear hb2); (try clear hk); (try clear hi)))
        go_meet
        case rel => exact ⟨_, (false), (by first | rfl | (simp; done) | (simp [*]; done)), H', ⟨by first | omega | exact Nat.le_refl _⟩, ⟨by (with_reducible repeat (first | refine blk_drewN ?_ _ | refine blk_drew ?_ | refine blk_alloc ?_ _)); exact BK269.out⟩, ⟨by (with_reducible repeat (first | refine blk_drewN ?_ _ | refine blk_drew ?_ | refine blk_alloc ?_ _)); exact BK270.out⟩, ⟨by repeat (first | (with_reducible first | exact HB.out | apply below_alloc | apply pw_below_drewN | apply below_drew1 | refine below_set ?_ GE269.out | refine below_set ?_ GE270.out) | exact HB.out)⟩⟩
    case rest =>
      clear HC6
      try clear c1
      try clear c2
      try clear p2
      try clear c5
      try clear c8
      try clear c11
      try clear c12
      try clear c13
      try clear c19
      try clear hcz14_0
      try clear hcz14_1
      try clear hcz14_2
      try clear hcz16_0
      try clear hcz16_1
      try clear hcz16_2
      try clear hcz17_0
      try clear hcz17_1
      try clear hcz17_2
      try clear hcz17_3
      try clear hcz17_4
      try clear hcz20_0
      try clear hcz20_1
      try clear hcz20_2
      try clear hfz14_0
      try clear hfz14_1
      try clear hfz14_2
      try clear hfz16_0
      try clear hfz16_1
      try clear hfz16_2
      try clear hfz17_0
      try clear hfz17_1
      try clear hfz17_2
      try clear hfz17_3
      try clear hfz17_4
      try clear hfz20_0
      try clear hfz20_1
      try clear hfz20_2
      obtain ⟨kq, x8_5, rfl, HA, HJ5, BK269, BK270, HB⟩ := hcut
      cases kq with
      | zero => exact absurd HA.out (by simp [annexlaw17_RtoClosed.j0])
      | succ kj5 =>
        have H := HA.out
        clear HA
        simp only [annexlaw17_RtoClosed.j0] at H
        replace H := Option.bind_eq_some_iff.mp H
        obtain ⟨t274, A220, H⟩ := H
        replace H : (if x8_5 = true then (annexlaw17_RtoClosed.l0 kj5 l2 t274 0 a0_0 a0_1 a0_2 a1_0 a1_1 a1_2 a1_3 a1_4) else ((rto_Sample.f a0_0 a0_1 a0_2 a1_0 a1_1 a1_2 a1_3 a1_4 7).bind fun bt275 => ((rto_Expire.f a0_0 a0_1 a0_2 a1_0 a1_1 a1_2 a1_3 a1_4).bind fun bt281 => ((annexref_SameEst.f bt275.1 bt275.2.1 bt275.2.2.1 bt275.2.2.2.1 bt275.2.2.2.2 0 0 0 0 false).bind fun t287 => ((annexref_SameEst.f bt281.1 bt281.2.1 bt281.2.2.1 bt281.2.2.2.1 bt281.2.2.2.2 0 0 0 0 false).bind fun t288 => (if t287 = true then (if t288 = true then (some (t274 == 0)) else (some false)) else (some false))))))) = some r := H
        have A22 := Aside0.mk A220
        clear A220
        by_cases c23 : x8_5 = true
        · subst c23
          have H1 : (annexlaw17_RtoClosed.l0 kj5 l2 t274 0 a0_0 a0_1 a0_2 a1_0 a1_1 a1_2 a1_3 a1_4) = some r := by rw [if_pos rfl] at H; exact H
          clear H
          have H := H1
          clear H1
          have H' := Aside0.mk H
          clear H
          have hnb24 := NB269_270.out
          have hnc24 := NB270_269.out
          have hcz25_0 : wc.cell? ⟨gb269, 0, none⟩ = some (.int .i64 a0_0) := (blk_cell BK269.out 0).trans rfl
          have hcz25_1 : wc.cell? ⟨gb269, 1, none⟩ = some (.int .i64 a0_1) := (blk_cell BK269.out 1).trans rfl
          have hcz25_2 : wc.cell? ⟨gb269, 2, none⟩ = some (.int .i64 a0_2) := (blk_cell BK269.out 2).trans rfl
          have hfz25_0 := blk_frozen BK269.out 0
          have hfz25_1 := blk_frozen BK269.out 1
          have hfz25_2 := blk_frozen BK269.out 2
          have hcz26_0 : wc.cell? ⟨gb270, 0, none⟩ = some (.int .i64 a1_0) := (blk_cell BK270.out 0).trans rfl
          have hcz26_1 : wc.cell? ⟨gb270, 1, none⟩ = some (.int .i64 a1_1) := (blk_cell BK270.out 1).trans rfl
          have hcz26_2 : wc.cell? ⟨gb270, 2, none⟩ = some (.int .i64 a1_2) := (blk_cell BK270.out 2).trans rfl
          have hcz26_3 : wc.cell? ⟨gb270, 3, none⟩ = some (.int .i64 a1_3) := (blk_cell BK270.out 3).trans rfl
          have hcz26_4 : wc.cell? ⟨gb270, 4, none⟩ = some (.bool a1_4) := (blk_cell BK270.out 4).trans rfl
          have hfz26_0 := blk_frozen BK270.out 0
          have hfz26_1 := blk_frozen BK270.out 1
          have hfz26_2 := blk_frozen BK270.out 2
          have hfz26_3 := blk_frozen BK270.out 3
          have hfz26_4 := blk_frozen BK270.out 4
          go_wp2_with (first | ((with_reducible refine gate_callee (f := 21) rfl ?_); refine goesL_ (some 27) rfl rfl Tryd.func21 (by kernel_rfl) rfl #[.agg #[.int .i64 a0_0, .int .i64 a0_1, .int .i64 a0_2], .agg #[.int .i64 a1_0, .int .i64 a1_1, .int .i64 a1_2, .int .i64 a1_3, .bool a1_4]] rfl (by (try simp only [List.map_toArray, List.map_cons, List.map_nil]); first | done | rfl | (simp only [List.length_drop, List.length_take]; rfl)) ?_; (with_reducible refine (rto_Wait.calls a0_0 a0_1 a0_2 a1_0 a1_1 a1_2 a1_3 a1_4 t274 _ ?side1 A22.out).mono ?_); (case side1 => exact Tied.below HG.out (by repeat (first | (with_reducible first | exact HB.out | apply below_alloc | apply pw_below_drewN | apply below_drew1 | refine below_set ?_ GE269.out | refine below_set ?_ GE270.out) | exact HB.out))); rintro e w27 ⟨rfl, hb⟩; refine ⟨_, rfl, ?_⟩; have n0_ := Aside0.mk (blk_below (g := gb269) (o := .cells #[.int .i64 a0_0, .int .i64 a0_1, .int .i64 a0_2] 23 (0, 0)) (by (with_reducible repeat (first | refine blk_drewN ?_ _ | refine blk_drew ?_ | refine blk_alloc ?_ _)); exact BK269.out) hb); have n1_ := Aside0.mk (blk_below (g := gb270) (o := .cells #[.int .i64 a1_0, .int .i64 a1_1, .int .i64 a1_2, .int .i64 a1_3, .bool a1_4] 26 (0, 0)) (by (with_reducible repeat (first | refine blk_drewN ?_ _ | refine blk_drew ?_ | refine blk_alloc ?_ _)); exact BK270.out) hb); have n2_ := Aside0.mk (below_step (by repeat (first | (with_reducible first | exact HB.out | apply below_alloc | apply pw_below_drewN | apply below_drew1 | refine below_set ?_ GE269.out | refine below_set ?_ GE270.out) | exact HB.out)) hb); clear BK269; clear BK270; clear HB; have BK269 := n0_; have BK270 := n1_; have HB := n2_; clear n0_ n1_ n2_; (try clear hb); (try clear hb2); (try clear hk); (try clear hi)))
          go_loopg [9, 14] kj5 (fun kq v9 v14 w' => ∃ (x9_2 : Int) (x14_2 : Int) (x271000_2 : Int) (x271001_2 : Int) (x271002_2 : Int) (x271003_2 : Int) (x271004_2 : Bool), v9 = .int .i64 x9_2 ∧ v14 = .int .i64 x14_2 ∧ Aside0 (annexlaw17_RtoClosed.l0 kq l2 x9_2 x14_2 a0_0 a0_1 a0_2 x271000_2 x271001_2 x271002_2 x271003_2 x271004_2 = some r) ∧ Aside0 (kq ≤ kj5) ∧ Aside0 (w'.heap[gb269]? = some (.cells #[.int .i64 a0_0, .int .i64 a0_1, .int .i64 a0_2] 23 (0, 0))) ∧ Aside0 (w'.heap[gb270]? = some (.cells #[.int .i64 x271000_2, .int .i64 x271001_2, .int .i64 x271002_2, .int .i64 x271003_2, .bool x271004_2] 26 (0, 0))) ∧ Aside0 (Below w.heap.size w w'))
          case atStart => exact ⟨(t274), (0), (a1_0), (a1_1), (a1_2), (a1_3), (a1_4), (by first | rfl | (simp; done) | (simp [*]; done)), (by first | rfl | (simp; done) | (simp [*]; done)), H', ⟨Nat.le_refl _⟩, ⟨by (with_reducible repeat (first | refine blk_drewN ?_ _ | refine blk_drew ?_ | refine blk_alloc ?_ _)); exact BK269.out⟩, ⟨by (with_reducible repeat (first | refine blk_drewN ?_ _ | refine blk_drew ?_ | refine blk_alloc ?_ _)); exact BK270.out⟩, ⟨by repeat (first | (with_reducible first | exact HB.out | apply below_alloc | apply pw_below_drewN | apply below_drew1 | refine below_set ?_ GE269.out | refine below_set ?_ GE270.out) | exact HB.out)⟩⟩
          case round =>
            clear H'
            try clear c1
            try clear c2
            try clear p2
            try clear c5
            try clear c8
            try clear c11
            try clear c12
            try clear c13
            try clear c19
            try clear c21
            try clear c23
            try clear c24
            try clear hcz14_0
            try clear hcz14_1
            try clear hcz14_2
            try clear hcz16_0
            try clear hcz16_1
            try clear hcz16_2
            try clear hcz17_0
            try clear hcz17_1
            try clear hcz17_2
            try clear hcz17_3
            try clear hcz17_4
            try clear hcz20_0
            try clear hcz20_1
            try clear hcz20_2
            try clear hcz25_0
            try clear hcz25_1
            try clear hcz25_2
            try clear hcz26_0
            try clear hcz26_1
            try clear hcz26_2
            try clear hcz26_3
            try clear hcz26_4
            try clear hfz14_0
            try clear hfz14_1
            try clear hfz14_2
            try clear hfz16_0
            try clear hfz16_1
            try clear hfz16_2
            try clear hfz17_0
            try clear hfz17_1
            try clear hfz17_2
            try clear hfz17_3
            try clear hfz17_4
            try clear hfz20_0
            try clear hfz20_1
            try clear hfz20_2
            try clear hfz25_0
            try clear hfz25_1
            try clear hfz25_2
            try clear hfz26_0
            try clear hfz26_1
            try clear hfz26_2
            try clear hfz26_3
            try clear hfz26_4
            try clear p2
            obtain ⟨x9_2, x14_2, x271000_2, x271001_2, x271002_2, x271003_2, x271004_2, rfl, rfl, HA, HK2, BK269, BK270, HB⟩ := hrel
            cases gk with
            | zero => exact absurd HA.out (by simp [annexlaw17_RtoClosed.l0])
            | succ k2 =>
              have H := HA.out
              clear HA
              simp only [annexlaw17_RtoClosed.l0] at H
              by_cases c28 : x14_2 < (l2.length : Int)
              · rw [if_pos c28] at H
                have c28b0 : decide (x14_2 < (l2.length : Int)) = true := decide_eq_true c28
                clear c28
                have HC29 := Aside0.mk H
                clear H
                go_upto_region 15 with (fail)
                go_cut [65] (fun v65 wc => ∃ (kq : Nat) (x65_28 : Bool), v65 = .bool x65_28 ∧ Aside0 (annexlaw17_RtoClosed.j2 kq l2 x14_2 x65_28 a0_0 a0_1 a0_2 x271000_2 x271001_2 x271002_2 x271003_2 x271004_2 = some r) ∧ Aside0 (kq ≤ k2) ∧ Aside0 (wc.heap[gb269]? = some (.cells #[.int .i64 a0_0, .int .i64 a0_1, .int .i64 a0_2] 23 (0, 0))) ∧ Aside0 (wc.heap[gb270]? = some (.cells #[.int .i64 x271000_2, .int .i64 x271001_2, .int .i64 x271002_2, .int .i64 x271003_2, .bool x271004_2] 26 (0, 0))) ∧ Aside0 (Below w.heap.size w wc))
                case first =>
                  have H := HC29.out
                  clear HC29
                  by_cases c30 : x9_2 < a0_0
                  · rw [if_pos c30] at H
                    have c30b0 : decide (x9_2 < a0_0) = true := decide_eq_true c30
                    clear c30
                    (first | rw [c30b0] | (simp only [i64_w, i32_w]; rw [c30b0]) | skip)
                    have H' := Aside0.mk H
                    clear H
                    have hnb31 := NB269_270.out
                    have hnc31 := NB270_269.out
                    have hcz32_0 : wr.cell? ⟨gb269, 0, none⟩ = some (.int .i64 a0_0) := (blk_cell BK269.out 0).trans rfl
                    have hcz32_1 : wr.cell? ⟨gb269, 1, none⟩ = some (.int .i64 a0_1) := (blk_cell BK269.out 1).trans rfl
                    have hcz32_2 : wr.cell? ⟨gb269, 2, none⟩ = some (.int .i64 a0_2) := (blk_cell BK269.out 2).trans rfl
                    have hfz32_0 := blk_frozen BK269.out 0
                    have hfz32_1 := blk_frozen BK269.out 1
                    have hfz32_2 := blk_frozen BK269.out 2
                    go_wp2
                    go_meet
                    case rel => exact ⟨_, (true), (by first | rfl | (simp; done) | (simp [*]; done)), H', ⟨by have := HJ5.out; have := HK2.out; first | omega | exact Nat.le_refl _⟩, ⟨by (with_reducible repeat (first | refine blk_drewN ?_ _ | refine blk_drew ?_ | refine blk_alloc ?_ _)); exact BK269.out⟩, ⟨by (with_reducible repeat (first | refine blk_drewN ?_ _ | refine blk_drew ?_ | refine blk_alloc ?_ _)); exact BK270.out⟩, ⟨by repeat (first | (with_reducible first | exact HB.out | apply below_alloc | apply pw_below_drewN | apply below_drew1 | refine below_set ?_ GE269.out | refine below_set ?_ GE270.out) | exact HB.out)⟩⟩
                  · rw [if_neg c30] at H
                    have c30b0 : decide (x9_2 < a0_0) = false := decide_eq_false c30
                    clear c30
                    (first | rw [c30b0] | (simp only [i64_w, i32_w]; rw [c30b0]) | skip)
                    have H' := Aside0.mk H
                    clear H
                    have hnb33 := NB269_270.out
                    have hnc33 := NB270_269.out
                    have hcz34_0 : wr.cell? ⟨gb269, 0, none⟩ = some (.int .i64 a0_0) := (blk_cell BK269.out 0).trans rfl
                    have hcz34_1 : wr.cell? ⟨gb269, 1, none⟩ = some (.int .i64 a0_1) := (blk_cell BK269.out 1).trans rfl
                    have hcz34_2 : wr.cell? ⟨gb269, 2, none⟩ = some (.int .i64 a0_2) := (blk_cell BK269.out 2).trans rfl
                    have hfz34_0 := blk_frozen BK269.out 0
                    have hfz34_1 := blk_frozen BK269.out 1
                    have hfz34_2 := blk_frozen BK269.out 2
                    go_wp2
                    go_meet
                    case rel => exact ⟨_, (decide (x9_2 > a0_2)), (by first | rfl | (simp; done) | (simp [*]; done)), H', ⟨by have := HJ5.out; have := HK2.out; first | omega | exact Nat.le_refl _⟩, ⟨by (with_reducible repeat (first | refine blk_drewN ?_ _ | refine blk_drew ?_ | refine blk_alloc ?_ _)); exact BK269.out⟩, ⟨by (with_reducible repeat (first | refine blk_drewN ?_ _ | refine blk_drew ?_ | refine blk_alloc ?_ _)); exact BK270.out⟩, ⟨by repeat (first | (with_reducible first | exact HB.out | apply below_alloc | apply pw_below_drewN | apply below_drew1 | refine below_set ?_ GE269.out | refine below_set ?_ GE270.out) | exact HB.out)⟩⟩
                case rest =>
                  clear HC29
                  try clear c1
                  try clear c2
                  try clear p2
                  try clear c3
                  try clear c5
                  try clear c8
                  try clear c11
                  try clear c12
                  try clear c13
                  try clear c19
                  try clear c21
                  try clear c23
                  try clear c24
                  try clear c28
                  try clear c28b0
                  try clear c30
                  try clear c30b0
                  try clear c31
                  try clear c33
                  try clear hcz14_0
                  try clear hcz14_1
                  try clear hcz14_2
                  try clear hcz16_0
                  try clear hcz16_1
                  try clear hcz16_2
                  try clear hcz17_0
                  try clear hcz17_1
                  try clear hcz17_2
                  try clear hcz17_3
                  try clear hcz17_4
                  try clear hcz20_0
                  try clear hcz20_1
                  try clear hcz20_2
                  try clear hcz25_0
                  try clear hcz25_1
                  try clear hcz25_2
                  try clear hcz26_0
                  try clear hcz26_1
                  try clear hcz26_2
                  try clear hcz26_3
                  try clear hcz26_4
                  try clear hcz32_0
                  try clear hcz32_1
                  try clear hcz32_2
                  try clear hcz34_0
                  try clear hcz34_1
                  try clear hcz34_2
                  try clear hfz14_0
                  try clear hfz14_1
                  try clear hfz14_2
                  try clear hfz16_0
                  try clear hfz16_1
                  try clear hfz16_2
                  try clear hfz17_0
                  try clear hfz17_1
                  try clear hfz17_2
                  try clear hfz17_3
                  try clear hfz17_4
                  try clear hfz20_0
                  try clear hfz20_1
                  try clear hfz20_2
                  try clear hfz25_0
                  try clear hfz25_1
                  try clear hfz25_2
                  try clear hfz26_0
                  try clear hfz26_1
                  try clear hfz26_2
                  try clear hfz26_3
                  try clear hfz26_4
                  try clear hfz32_0
                  try clear hfz32_1
                  try clear hfz32_2
                  try clear hfz34_0
                  try clear hfz34_1
                  try clear hfz34_2
                  try clear p2
                  obtain ⟨kq, x65_28, rfl, HA, HJ28, BK269, BK270, HB⟩ := hcut
                  cases kq with
                  | zero => exact absurd HA.out (by simp [annexlaw17_RtoClosed.j2])
                  | succ kj28 =>
                    have H := HA.out
                    clear HA
                    simp only [annexlaw17_RtoClosed.j2] at H
                    by_cases c35 : x65_28 = true
                    · subst c35
                      have H1 : (some false) = some r := by rw [if_pos rfl] at H; exact H
                      clear H
                      have H := H1
                      clear H1
                      obtain rfl := Option.some.inj H
                      go_wp2
                      go_ret
                      exact ⟨by first | rfl | (simp [errW_none, errW_some] <;> rfl) | (simp [*, errW_none, errW_some] <;> rfl), by repeat (first | (with_reducible first | exact HB.out | apply below_alloc | apply pw_below_drewN | apply below_drew1 | refine below_set ?_ GE269.out | refine below_set ?_ GE270.out) | exact HB.out)⟩
                    · replace c35 := Bool.eq_false_iff.mpr c35
                      subst c35
                      have H1 : (if 0 ≤ x14_2 then (if x14_2 < (l2.length : Int) then (if (rd l2 x14_2) < 0 then ((rto_Expire.f a0_0 a0_1 a0_2 x271000_2 x271001_2 x271002_2 x271003_2 x271004_2).bind fun bt290 => (annexlaw17_RtoClosed.j3 kj28 l2 x14_2 a0_0 a0_1 a0_2 bt290.1 bt290.2.1 bt290.2.2.1 bt290.2.2.2.1 bt290.2.2.2.2)) else ((rto_Sample.f a0_0 a0_1 a0_2 x271000_2 x271001_2 x271002_2 x271003_2 x271004_2 (rd l2 x14_2)).bind fun bt296 => (annexlaw17_RtoClosed.j3 kj28 l2 x14_2 a0_0 a0_1 a0_2 bt296.1 bt296.2.1 bt296.2.2.1 bt296.2.2.2.1 bt296.2.2.2.2))) else (none)) else (none)) = some r := by rw [if_neg (show ¬ (false = true) by decide)] at H; exact H
                      clear H
                      have H := H1
                      clear H1
                      by_cases c36 : 0 ≤ x14_2
                      · rw [if_pos c36] at H
                        have c36b0 : decide (0 ≤ x14_2) = true := decide_eq_true c36
                        clear c36
                        by_cases c37 : x14_2 < (l2.length : Int)
                        · rw [if_pos c37] at H
                          have c37b0 : decide (x14_2 < (l2.length : Int)) = true := decide_eq_true c37
                          clear c37
                          have HC38 := Aside0.mk H
                          clear H
                          have p289 : 0 ≤ (x14_2 : Int) := of_decide_eq_true (by first | (with_reducible assumption) | assumption)
                          have q289 : x14_2 < (l2.length : Int) := of_decide_eq_true (by first | (with_reducible assumption) | assumption)
                          obtain ⟨ad289, e289, hx289_0⟩ := Kd.at_int HR2.out x14_2 p289 q289
                          cases e289
                          replace hx289_0 := (HB.out.cell (World.block_lt_of_cell? w _ hx289_0)).trans hx289_0
                          replace p289 := eq_true p289
                          replace q289 := eq_true q289
                          go_upto_if 70 with (fail)
                          go_cut [] (fun wc => ∃ (kq : Nat) (x271000_37 : Int) (x271001_37 : Int) (x271002_37 : Int) (x271003_37 : Int) (x271004_37 : Bool), Aside0 (annexlaw17_RtoClosed.j3 kq l2 x14_2 a0_0 a0_1 a0_2 x271000_37 x271001_37 x271002_37 x271003_37 x271004_37 = some r) ∧ Aside0 (kq ≤ kj28) ∧ Aside0 (wc.heap[gb269]? = some (.cells #[.int .i64 a0_0, .int .i64 a0_1, .int .i64 a0_2] 23 (0, 0))) ∧ Aside0 (wc.heap[gb270]? = some (.cells #[.int .i64 x271000_37, .int .i64 x271001_37, .int .i64 x271002_37, .int .i64 x271003_37, .bool x271004_37] 26 (0, 0))) ∧ Aside0 (Below w.heap.size w wc))
                          case first =>
                            have H := HC38.out
                            clear HC38
                            by_cases c39 : (rd l2 x14_2) < 0
                            · rw [if_pos c39] at H
                              have c39b0 : decide ((rd l2 x14_2) < 0) = true := decide_eq_true c39
                              clear c39
                              (first | rw [c39b0] | (simp only [i64_w, i32_w]; rw [c39b0]) | skip)
                              replace H := Option.bind_eq_some_iff.mp H
                              obtain ⟨⟨t290, t291, t292, t293, t294⟩, A400, H⟩ := H
                              replace H : (annexlaw17_RtoClosed.j3 kj28 l2 x14_2 a0_0 a0_1 a0_2 t290 t291 t292 t293 t294) = some r := H
                              have A40 := Aside0.mk A400
                              clear A400
                              have H' := Aside0.mk H
                              clear H
                              have hnb41 := NB269_270.out
                              have hnc41 := NB270_269.out
                              have hcz42_0 : wc.cell? ⟨gb269, 0, none⟩ = some (.int .i64 a0_0) := (blk_cell BK269.out 0).trans rfl
                              have hcz42_1 : wc.cell? ⟨gb269, 1, none⟩ = some (.int .i64 a0_1) := (blk_cell BK269.out 1).trans rfl
                              have hcz42_2 : wc.cell? ⟨gb269, 2, none⟩ = some (.int .i64 a0_2) := (blk_cell BK269.out 2).trans rfl
                              have hfz42_0 := blk_frozen BK269.out 0
                              have hfz42_1 := blk_frozen BK269.out 1
                              have hfz42_2 := blk_frozen BK269.out 2
                              have hcz43_0 : wc.cell? ⟨gb270, 0, none⟩ = some (.int .i64 x271000_2) := (blk_cell BK270.out 0).trans rfl
                              have hcz43_1 : wc.cell? ⟨gb270, 1, none⟩ = some (.int .i64 x271001_2) := (blk_cell BK270.out 1).trans rfl
                              have hcz43_2 : wc.cell? ⟨gb270, 2, none⟩ = some (.int .i64 x271002_2) := (blk_cell BK270.out 2).trans rfl
                              have hcz43_3 : wc.cell? ⟨gb270, 3, none⟩ = some (.int .i64 x271003_2) := (blk_cell BK270.out 3).trans rfl
                              have hcz43_4 : wc.cell? ⟨gb270, 4, none⟩ = some (.bool x271004_2) := (blk_cell BK270.out 4).trans rfl
                              have hfz43_0 := blk_frozen BK270.out 0
                              have hfz43_1 := blk_frozen BK270.out 1
                              have hfz43_2 := blk_frozen BK270.out 2
                              have hfz43_3 := blk_frozen BK270.out 3
                              have hfz43_4 := blk_frozen BK270.out 4
                              go_wp2_with (first | ((with_reducible refine gate_callee (f := 19) rfl ?_); refine goesL_ (some 73) rfl rfl Tryd.func19 (by kernel_rfl) rfl #[.agg #[.int .i64 a0_0, .int .i64 a0_1, .int .i64 a0_2], .agg #[.int .i64 x271000_2, .int .i64 x271001_2, .int .i64 x271002_2, .int .i64 x271003_2, .bool x271004_2]] rfl (by (try simp only [List.map_toArray, List.map_cons, List.map_nil]); first | done | rfl | (simp only [List.length_drop, List.length_take]; rfl)) ?_; (with_reducible refine (rto_Expire.calls a0_0 a0_1 a0_2 x271000_2 x271001_2 x271002_2 x271003_2 x271004_2 t290 t291 t292 t293 t294 _ ?side1 A40.out).mono ?_); (case side1 => exact Tied.below HG.out (by repeat (first | (with_reducible first | exact HB.out | apply below_alloc | apply pw_below_drewN | apply below_drew1 | refine below_set ?_ GE269.out | refine below_set ?_ GE270.out) | exact HB.out))); rintro e w44 ⟨rfl, hb⟩; refine ⟨_, rfl, ?_⟩; have n0_ := Aside0.mk (blk_below (g := gb269) (o := .cells #[.int .i64 a0_0, .int .i64 a0_1, .int .i64 a0_2] 23 (0, 0)) (by (with_reducible repeat (first | refine blk_drewN ?_ _ | refine blk_drew ?_ | refine blk_alloc ?_ _)); exact BK269.out) hb); have n1_ := Aside0.mk (blk_below (g := gb270) (o := .cells #[.int .i64 x271000_2, .int .i64 x271001_2, .int .i64 x271002_2, .int .i64 x271003_2, .bool x271004_2] 26 (0, 0)) (by (with_reducible repeat (first | refine blk_drewN ?_ _ | refine blk_drew ?_ | refine blk_alloc ?_ _)); exact BK270.out) hb); have n2_ := Aside0.mk (below_step (by repeat (first | (with_reducible first | exact HB.out | apply below_alloc | apply pw_below_drewN | apply below_drew1 | refine below_set ?_ GE269.out | refine below_set ?_ GE270.out) | exact HB.out)) hb); clear BK269; clear BK270; clear HB; have BK269 := n0_; have BK270 := n1_; have HB := n2_; clear n0_ n1_ n2_; (try clear hb); (try clear hb2); (try clear hk); (try clear hi); have hcz45_0 : w44.cell? ⟨gb270, 0, none⟩ = some (.int .i64 x271000_2) := (blk_cell BK270.out 0).trans rfl; have hcz45_1 : w44.cell? ⟨gb270, 1, none⟩ = some (.int .i64 x271001_2) := (blk_cell BK270.out 1).trans rfl; have hcz45_2 : w44.cell? ⟨gb270, 2, none⟩ = some (.int .i64 x271002_2) := (blk_cell BK270.out 2).trans rfl; have hcz45_3 : w44.cell? ⟨gb270, 3, none⟩ = some (.int .i64 x271003_2) := (blk_cell BK270.out 3).trans rfl; have hcz45_4 : w44.cell? ⟨gb270, 4, none⟩ = some (.bool x271004_2) := (blk_cell BK270.out 4).trans rfl; have hfz45_0 := blk_frozen BK270.out 0; have hfz45_1 := blk_frozen BK270.out 1; have hfz45_2 := blk_frozen BK270.out 2; have hfz45_3 := blk_frozen BK270.out 3; have hfz45_4 := blk_frozen BK270.out 4))
                              go_meet
                              case rel => exact ⟨_, (t290), (t291), (t292), (t293), (t294), H', ⟨by have := HJ5.out; have := HK2.out; have := HJ28.out; first | omega | exact Nat.le_refl _⟩, ⟨by (with_reducible repeat (first | refine blk_drewN ?_ _ | refine blk_drew ?_ | refine blk_alloc ?_ _)); refine blk_far ?_ NB269_270.out _; (with_reducible repeat (first | refine blk_drewN ?_ _ | refine blk_drew ?_ | refine blk_alloc ?_ _)); refine blk_far ?_ NB269_270.out _; (with_reducible repeat (first | refine blk_drewN ?_ _ | refine blk_drew ?_ | refine blk_alloc ?_ _)); refine blk_far ?_ NB269_270.out _; (with_reducible repeat (first | refine blk_drewN ?_ _ | refine blk_drew ?_ | refine blk_alloc ?_ _)); refine blk_far ?_ NB269_270.out _; (with_reducible repeat (first | refine blk_drewN ?_ _ | refine blk_drew ?_ | refine blk_alloc ?_ _)); refine blk_far ?_ NB269_270.out _; (with_reducible repeat (first | refine blk_drewN ?_ _ | refine blk_drew ?_ | refine blk_alloc ?_ _)); exact BK269.out⟩, ⟨by (with_reducible repeat (first | refine blk_drewN ?_ _ | refine blk_drew ?_ | refine blk_alloc ?_ _)); refine blk_put (cs := #[.int .i64 t290, .int .i64 t291, .int .i64 t292, .int .i64 t293, .bool x271004_2]) ?_ 4 _ rfl; (with_reducible repeat (first | refine blk_drewN ?_ _ | refine blk_drew ?_ | refine blk_alloc ?_ _)); refine blk_put (cs := #[.int .i64 t290, .int .i64 t291, .int .i64 t292, .int .i64 x271003_2, .bool x271004_2]) ?_ 3 _ rfl; (with_reducible repeat (first | refine blk_drewN ?_ _ | refine blk_drew ?_ | refine blk_alloc ?_ _)); refine blk_put (cs := #[.int .i64 t290, .int .i64 t291, .int .i64 x271002_2, .int .i64 x271003_2, .bool x271004_2]) ?_ 2 _ rfl; (with_reducible repeat (first | refine blk_drewN ?_ _ | refine blk_drew ?_ | refine blk_alloc ?_ _)); refine blk_put (cs := #[.int .i64 t290, .int .i64 x271001_2, .int .i64 x271002_2, .int .i64 x271003_2, .bool x271004_2]) ?_ 1 _ rfl; (with_reducible repeat (first | refine blk_drewN ?_ _ | refine blk_drew ?_ | refine blk_alloc ?_ _)); refine blk_put (cs := #[.int .i64 x271000_2, .int .i64 x271001_2, .int .i64 x271002_2, .int .i64 x271003_2, .bool x271004_2]) ?_ 0 _ rfl; (with_reducible repeat (first | refine blk_drewN ?_ _ | refine blk_drew ?_ | refine blk_alloc ?_ _)); exact BK270.out⟩, ⟨by repeat (first | (with_reducible first | exact HB.out | apply below_alloc | apply pw_below_drewN | apply below_drew1 | refine below_set ?_ GE269.out | refine below_set ?_ GE270.out) | exact HB.out)⟩⟩
                            · rw [if_neg c39] at H
                              have c39b0 : decide ((rd l2 x14_2) < 0) = false := decide_eq_false c39
                              clear c39
                              (first | rw [c39b0] | (simp only [i64_w, i32_w]; rw [c39b0]) | skip)
                              replace H := Option.bind_eq_some_iff.mp H
                              obtain ⟨⟨t296, t297, t298, t299, t300⟩, A460, H⟩ := H
                              replace H : (annexlaw17_RtoClosed.j3 kj28 l2 x14_2 a0_0 a0_1 a0_2 t296 t297 t298 t299 t300) = some r := H
                              have A46 := Aside0.mk A460
                              clear A460
                              have H' := Aside0.mk H
                              clear H
                              try go_wp2
                              have n0_ := Aside0.mk (blk_drew BK269.out)
                              have n1_ := Aside0.mk (blk_drew BK270.out)
                              have n2_ := Aside0.mk (below_drew1 HB.out)
                              clear BK269
                              clear BK270
                              clear HB
                              have BK269 := n0_
                              have BK270 := n1_
                              have HB := n2_
                              clear n0_ n1_ n2_
                              have p295 : 0 ≤ (x14_2 : Int) := of_decide_eq_true (by first | (with_reducible assumption) | assumption)
                              have q295 : x14_2 < (l2.length : Int) := of_decide_eq_true (by first | (with_reducible assumption) | assumption)
                              obtain ⟨ad295, e295, hx295_0⟩ := Kd.at_int HR2.out x14_2 p295 q295
                              have hw295_0 := hx295_0
                              obtain rfl : ad289 = ad295 := (by injection e295)
                              replace hx295_0 := (HB.out.cell (World.block_lt_of_cell? w _ hx295_0)).trans hx295_0
                              replace p295 := eq_true p295
                              replace q295 := eq_true q295
                              refine start_ (n := 8) (S := fun w' => w'.cell? ⟨gb269, 0, none⟩ = some (.int .i64 a0_0) ∧ w'.cell? ⟨gb269, 1, none⟩ = some (.int .i64 a0_1) ∧ w'.cell? ⟨gb269, 2, none⟩ = some (.int .i64 a0_2) ∧ w'.cell? ⟨gb270, 0, none⟩ = some (.int .i64 x271000_2) ∧ w'.cell? ⟨gb270, 1, none⟩ = some (.int .i64 x271001_2) ∧ w'.cell? ⟨gb270, 2, none⟩ = some (.int .i64 x271002_2) ∧ w'.cell? ⟨gb270, 3, none⟩ = some (.int .i64 x271003_2) ∧ w'.cell? ⟨gb270, 4, none⟩ = some (.bool x271004_2) ∧ w'.cell? (ad289.add (x14_2).toNat) = some (.int .i64 (rd l2 x14_2))) (ds := [7]) #[false, false, false, false, false, false, false, false] (by kernel_rfl) rfl rfl ⟨(blk_cell BK269.out 0).trans rfl, (blk_cell BK269.out 1).trans rfl, (blk_cell BK269.out 2).trans rfl, (blk_cell BK270.out 0).trans rfl, (blk_cell BK270.out 1).trans rfl, (blk_cell BK270.out 2).trans rfl, (blk_cell BK270.out 3).trans rfl, (blk_cell BK270.out 4).trans rfl, ((HB.out.cell (World.block_lt_of_cell? w _ hw295_0)).trans hw295_0)⟩ (fun hHeld => ?_); refine with_tabW annexlaw17_RtoClosed.tab19 annexlaw17_RtoClosed.bits19 (fun HT_ HW_ => ?_)
                              generalize wc.drew = w47 at BK269 BK270 HB hx295_0 hHeld ⊢
                              refine pure_ (i := 2) (N := some 76) (v := ?_) (a' := ?_) #[false, false, true, false, false, false, false, false] rfl rfl (any_of HT_.out (by kernel_rfl)) (fun _ _ _ h => h) (Or.inl ⟨by rfl, ?_⟩) ?_ ?_
                              rotate_left
                              · intro w'
                                go_simp
                                with_reducible rfl
                              rotate_left
                              · simp only [Act.put, List.setIfInBounds_toArray, List.set_cons_zero, List.set_cons_succ, i64_w, i32_w]
                                rfl
                              refine pure_ (i := 3) (N := some 77) (v := ?_) (a' := ?_) #[false, false, true, true, false, false, false, false] rfl rfl (any_of HT_.out (by kernel_rfl)) (fun _ _ _ h => h) (Or.inl ⟨by rfl, ?_⟩) ?_ ?_
                              rotate_left
                              · intro w'
                                go_simp
                                with_reducible rfl
                              rotate_left
                              · simp only [Act.put, List.setIfInBounds_toArray, List.set_cons_zero, List.set_cons_succ, i64_w, i32_w]
                                rfl
                              refine pure_ (i := 4) (N := some 78) (v := ?_) (a' := ?_) #[false, false, true, true, true, false, false, false] rfl rfl (any_of HT_.out (by kernel_rfl)) (fun _ _ _ h => h) (Or.inl ⟨by rfl, ?_⟩) ?_ ?_
                              rotate_left
                              · intro w'
                                go_simp
                                with_reducible rfl
                              rotate_left
                              · simp only [Act.put, List.setIfInBounds_toArray, List.set_cons_zero, List.set_cons_succ, i64_w, i32_w]
                                rfl
                              refine take_ (i := 0) (N := some 74) (v := ?_) (a' := ?_) #[true, false, true, true, true, false, false, false] rfl rfl (take_ofW HT_.out HW_.out (by kernel_rfl)) (fun _ _ _ h => h) (Or.inl ⟨by rfl, ?_⟩) hHeld ?_ ?_
                              rotate_left
                              · rintro w' ⟨s0, s1, s2, s3, s4, s5, s6, s7, s8⟩
                                go_simp
                                with_reducible rfl
                              rotate_left
                              · simp only [Act.put, List.setIfInBounds_toArray, List.set_cons_zero, List.set_cons_succ, i64_w, i32_w]
                                rfl
                              refine take_ (i := 1) (N := some 75) (v := ?_) (a' := ?_) #[true, true, true, true, true, false, false, false] rfl rfl (take_ofW HT_.out HW_.out (by kernel_rfl)) (fun _ _ _ h => h) (Or.inl ⟨by rfl, ?_⟩) hHeld ?_ ?_
                              rotate_left
                              · rintro w' ⟨s0, s1, s2, s3, s4, s5, s6, s7, s8⟩
                                go_simp
                                with_reducible rfl
                              rotate_left
                              · simp only [Act.put, List.setIfInBounds_toArray, List.set_cons_zero, List.set_cons_succ, i64_w, i32_w]
                                rfl
                              refine take_ (i := 5) (N := some 79) (v := ?_) (a' := ?_) #[true, true, true, true, true, true, false, false] rfl rfl (take_ofW HT_.out HW_.out (by kernel_rfl)) (fun _ _ _ h => h) (Or.inl ⟨by rfl, ?_⟩) hHeld ?_ ?_
                              rotate_left
                              · rintro w' ⟨s0, s1, s2, s3, s4, s5, s6, s7, s8⟩
                                go_simp
                                with_reducible rfl
                              rotate_left
                              · simp only [Act.put, List.setIfInBounds_toArray, List.set_cons_zero, List.set_cons_succ, i64_w, i32_w]
                                rfl
                              refine one_ (i := 6) (N := some 80) #[true, true, true, true, true, true, true, false] rfl rfl (one_of HT_.out (by kernel_rfl)) (by decide) (fun K hK => ?_)
                              refine goes_ Tryd.func17 (by kernel_rfl) rfl #[.agg #[.int .i64 a0_0, .int .i64 a0_1, .int .i64 a0_2], .agg #[.int .i64 x271000_2, .int .i64 x271001_2, .int .i64 x271002_2, .int .i64 x271003_2, .bool x271004_2], .int .i64 (rd l2 x14_2)] (by rfl) rfl rfl (by (try simp only [List.map_toArray, List.map_cons, List.map_nil]); first | done | rfl | (simp only [List.length_drop, List.length_take]; rfl)) ?_
                              with_reducible refine (rto_Sample.calls a0_0 a0_1 a0_2 x271000_2 x271001_2 x271002_2 x271003_2 x271004_2 (rd l2 x14_2) t296 t297 t298 t299 t300 _ ?side1 A46.out).mono ?_
                              (case side1 => exact Tied.below HG.out (by repeat (first | (with_reducible first | exact HB.out | apply below_alloc | apply pw_below_drewN | apply below_drew1 | refine below_set ?_ GE269.out | refine below_set ?_ GE270.out) | exact HB.out)))
                              rintro e w48 ⟨rfl, hb⟩
                              refine ⟨_, rfl, ?_⟩
                              have n0_ := Aside0.mk (blk_below (g := gb269) (o := .cells #[.int .i64 a0_0, .int .i64 a0_1, .int .i64 a0_2] 23 (0, 0)) (by (with_reducible repeat (first | refine blk_drewN ?_ _ | refine blk_drew ?_ | refine blk_alloc ?_ _)); exact BK269.out) hb)
                              have n1_ := Aside0.mk (blk_below (g := gb270) (o := .cells #[.int .i64 x271000_2, .int .i64 x271001_2, .int .i64 x271002_2, .int .i64 x271003_2, .bool x271004_2] 26 (0, 0)) (by (with_reducible repeat (first | refine blk_drewN ?_ _ | refine blk_drew ?_ | refine blk_alloc ?_ _)); exact BK270.out) hb)
                              have n2_ := Aside0.mk (below_step (by repeat (first | (with_reducible first | exact HB.out | apply below_alloc | apply pw_below_drewN | apply below_drew1 | refine below_set ?_ GE269.out | refine below_set ?_ GE270.out) | exact HB.out)) hb)
                              clear BK269
                              clear BK270
                              clear HB
                              have BK269 := n0_
                              have BK270 := n1_
                              have HB := n2_
                              clear n0_ n1_ n2_
                              (try clear hb)
                              (try clear hb2)
                              (try clear hk)
                              (try clear hi)
                              refine hK.out _ _ ⟨(blk_cell BK269.out 0).trans rfl, (blk_cell BK269.out 1).trans rfl, (blk_cell BK269.out 2).trans rfl, (blk_cell BK270.out 0).trans rfl, (blk_cell BK270.out 1).trans rfl, (blk_cell BK270.out 2).trans rfl, (blk_cell BK270.out 3).trans rfl, (blk_cell BK270.out 4).trans rfl, ((HB.out.cell (World.block_lt_of_cell? w _ hw295_0)).trans hw295_0)⟩ (fun hHeld => ?_)
                              clear hK K
                              refine norm_ (a' := ?_) ?_ ?_
                              rotate_left
                              · show Act.put _ (some 80) _ = _
                                simp only [Act.put, List.setIfInBounds_toArray, List.set_cons_zero, List.set_cons_succ, i64_w, i32_w]
                                rfl
                              refine last_ (i := 7) (N := none) #[true, true, true, true, true, true, true, true] rfl rfl (one_of HT_.out (by kernel_rfl)) (by decide) (fun K hK => ?_)
                              have hs49 : w48.cell? ⟨gb270, 0, none⟩ = some (.int .i64 x271000_2) := (blk_cell BK270.out 0).trans rfl
                              have hfs49 := blk_frozen BK270.out 0
                              have hns49_0 := NB269_270.out
                              have hms49_0 := NB270_269.out
                              have hs50 : w48.cell? ⟨gb270, 1, none⟩ = some (.int .i64 x271001_2) := (blk_cell BK270.out 1).trans rfl
                              have hfs50 := blk_frozen BK270.out 1
                              have hns50_0 := NB269_270.out
                              have hms50_0 := NB270_269.out
                              have hs51 : w48.cell? ⟨gb270, 2, none⟩ = some (.int .i64 x271002_2) := (blk_cell BK270.out 2).trans rfl
                              have hfs51 := blk_frozen BK270.out 2
                              have hns51_0 := NB269_270.out
                              have hms51_0 := NB270_269.out
                              have hs52 : w48.cell? ⟨gb270, 3, none⟩ = some (.int .i64 x271003_2) := (blk_cell BK270.out 3).trans rfl
                              have hfs52 := blk_frozen BK270.out 3
                              have hns52_0 := NB269_270.out
                              have hms52_0 := NB270_269.out
                              have hs53 : w48.cell? ⟨gb270, 4, none⟩ = some (.bool x271004_2) := (blk_cell BK270.out 4).trans rfl
                              have hfs53 := blk_frozen BK270.out 4
                              have hns53_0 := NB269_270.out
                              have hms53_0 := NB270_269.out
                              refine skip_ (w1 := ?_) (by rfl) rfl ?_ ?_
                              rotate_left
                              · go_simp
                                rfl
                              refine hK.out _ _ ?_
                              clear hK K
                              refine done_ (done_of HT_.out (by kernel_rfl)) ?_
                              try go_wp2
                              go_meet
                              case rel => exact ⟨_, (t296), (t297), (t298), (t299), (t300), H', ⟨by have := HJ5.out; have := HK2.out; have := HJ28.out; first | omega | exact Nat.le_refl _⟩, ⟨by (with_reducible repeat (first | refine blk_drewN ?_ _ | refine blk_drew ?_ | refine blk_alloc ?_ _)); refine blk_far ?_ NB269_270.out _; (with_reducible repeat (first | refine blk_drewN ?_ _ | refine blk_drew ?_ | refine blk_alloc ?_ _)); refine blk_far ?_ NB269_270.out _; (with_reducible repeat (first | refine blk_drewN ?_ _ | refine blk_drew ?_ | refine blk_alloc ?_ _)); refine blk_far ?_ NB269_270.out _; (with_reducible repeat (first | refine blk_drewN ?_ _ | refine blk_drew ?_ | refine blk_alloc ?_ _)); refine blk_far ?_ NB269_270.out _; (with_reducible repeat (first | refine blk_drewN ?_ _ | refine blk_drew ?_ | refine blk_alloc ?_ _)); refine blk_far ?_ NB269_270.out _; (with_reducible repeat (first | refine blk_drewN ?_ _ | refine blk_drew ?_ | refine blk_alloc ?_ _)); exact BK269.out⟩, ⟨by (with_reducible repeat (first | refine blk_drewN ?_ _ | refine blk_drew ?_ | refine blk_alloc ?_ _)); refine blk_put (cs := #[.int .i64 t296, .int .i64 t297, .int .i64 t298, .int .i64 t299, .bool x271004_2]) ?_ 4 _ rfl; (with_reducible repeat (first | refine blk_drewN ?_ _ | refine blk_drew ?_ | refine blk_alloc ?_ _)); refine blk_put (cs := #[.int .i64 t296, .int .i64 t297, .int .i64 t298, .int .i64 x271003_2, .bool x271004_2]) ?_ 3 _ rfl; (with_reducible repeat (first | refine blk_drewN ?_ _ | refine blk_drew ?_ | refine blk_alloc ?_ _)); refine blk_put (cs := #[.int .i64 t296, .int .i64 t297, .int .i64 x271002_2, .int .i64 x271003_2, .bool x271004_2]) ?_ 2 _ rfl; (with_reducible repeat (first | refine blk_drewN ?_ _ | refine blk_drew ?_ | refine blk_alloc ?_ _)); refine blk_put (cs := #[.int .i64 t296, .int .i64 x271001_2, .int .i64 x271002_2, .int .i64 x271003_2, .bool x271004_2]) ?_ 1 _ rfl; (with_reducible repeat (first | refine blk_drewN ?_ _ | refine blk_drew ?_ | refine blk_alloc ?_ _)); refine blk_put (cs := #[.int .i64 x271000_2, .int .i64 x271001_2, .int .i64 x271002_2, .int .i64 x271003_2, .bool x271004_2]) ?_ 0 _ rfl; (with_reducible repeat (first | refine blk_drewN ?_ _ | refine blk_drew ?_ | refine blk_alloc ?_ _)); exact BK270.out⟩, ⟨by repeat (first | (with_reducible first | exact HB.out | apply below_alloc | apply pw_below_drewN | apply below_drew1 | refine below_set ?_ GE269.out | refine below_set ?_ GE270.out) | exact HB.out)⟩⟩
                          case rest =>
                            clear HC38
                            try clear c1
                            try clear c2
                            try clear p2
                            try clear q2
                            try clear hx2
                            try clear c3
                            try clear c4
                            try clear c5
                            try clear c8
                            try clear c11
                            try clear c12
                            try clear c13
                            try clear c17
                            try clear c19
                            try clear c21
                            try clear c23
                            try clear c24
                            try clear c28
                            try clear c28b0
                            try clear p28
                            try clear q28
                            try clear hx28
                            try clear p29
                            try clear q29
                            try clear hx29
                            try clear c30
                            try clear c30b0
                            try clear c31
                            try clear c33
                            try clear c35
                            try clear c36
                            try clear c36b0
                            try clear c37
                            try clear c37b0
                            try clear c39
                            try clear c39b0
                            try clear c41
                            try clear hcz14_0
                            try clear hcz14_1
                            try clear hcz14_2
                            try clear hcz16_0
                            try clear hcz16_1
                            try clear hcz16_2
                            try clear hcz17_0
                            try clear hcz17_1
                            try clear hcz17_2
                            try clear hcz17_3
                            try clear hcz17_4
                            try clear hcz20_0
                            try clear hcz20_1
                            try clear hcz20_2
                            try clear hcz25_0
                            try clear hcz25_1
                            try clear hcz25_2
                            try clear hcz26_0
                            try clear hcz26_1
                            try clear hcz26_2
                            try clear hcz26_3
                            try clear hcz26_4
                            try clear hcz32_0
                            try clear hcz32_1
                            try clear hcz32_2
                            try clear hcz34_0
                            try clear hcz34_1
                            try clear hcz34_2
                            try clear hcz42_0
                            try clear hcz42_1
                            try clear hcz42_2
                            try clear hcz43_0
                            try clear hcz43_1
                            try clear hcz43_2
                            try clear hcz43_3
                            try clear hcz43_4
                            try clear hcz45_0
                            try clear hcz45_1
                            try clear hcz45_2
                            try clear hcz45_3
                            try clear hcz45_4
                            try clear hfz14_0
                            try clear hfz14_1
                            try clear hfz14_2
                            try clear hfz16_0
                            try clear hfz16_1
                            try clear hfz16_2
                            try clear hfz17_0
                            try clear hfz17_1
                            try clear hfz17_2
                            try clear hfz17_3
                            try clear hfz17_4
                            try clear hfz20_0
                            try clear hfz20_1
                            try clear hfz20_2
                            try clear hfz25_0
                            try clear hfz25_1
                            try clear hfz25_2
                            try clear hfz26_0
                            try clear hfz26_1
                            try clear hfz26_2
                            try clear hfz26_3
                            try clear hfz26_4
                            try clear hfz32_0
                            try clear hfz32_1
                            try clear hfz32_2
                            try clear hfz34_0
                            try clear hfz34_1
                            try clear hfz34_2
                            try clear hfz42_0
                            try clear hfz42_1
                            try clear hfz42_2
                            try clear hfz43_0
                            try clear hfz43_1
                            try clear hfz43_2
                            try clear hfz43_3
                            try clear hfz43_4
                            try clear hfz45_0
                            try clear hfz45_1
                            try clear hfz45_2
                            try clear hfz45_3
                            try clear hfz45_4
                            try clear hx289_0
                            try clear hx295_0
                            try clear p2
                            try clear p289
                            try clear p295
                            try clear q289
                            try clear q295
                            obtain ⟨kq, x271000_37, x271001_37, x271002_37, x271003_37, x271004_37, HA, HJ37, BK269, BK270, HB⟩ := hcut
                            cases kq with
                            | zero => exact absurd HA.out (by simp [annexlaw17_RtoClosed.j3])
                            | succ kj37 =>
                              have H := HA.out
                              clear HA
                              simp only [annexlaw17_RtoClosed.j3] at H
                              replace H := Option.bind_eq_some_iff.mp H
                              obtain ⟨t301, A540, H⟩ := H
                              replace H : ((rto_Wait.f a0_0 a0_1 a0_2 x271000_37 x271001_37 x271002_37 x271003_37 x271004_37).bind fun t302 => (if t301 = true then (if 0 ≤ x14_2 then (if x14_2 < (l2.length : Int) then (if (rd l2 x14_2) ≥ 0 then (if t302 = x271002_37 then (if x271004_37 = true then (if x271003_37 = 0 then (annexlaw17_RtoClosed.l0 kj37 l2 t302 (wrap64 (x14_2 + 1)) a0_0 a0_1 a0_2 x271000_37 x271001_37 x271002_37 x271003_37 x271004_37) else (some false)) else (some false)) else (some false)) else (annexlaw17_RtoClosed.l0 kj37 l2 t302 (wrap64 (x14_2 + 1)) a0_0 a0_1 a0_2 x271000_37 x271001_37 x271002_37 x271003_37 x271004_37)) else (none)) else (none)) else (some false))) = some r := H
                              have A54 := Aside0.mk A540
                              clear A540
                              replace H := Option.bind_eq_some_iff.mp H
                              obtain ⟨t302, A550, H⟩ := H
                              replace H : (if t301 = true then (if 0 ≤ x14_2 then (if x14_2 < (l2.length : Int) then (if (rd l2 x14_2) ≥ 0 then (if t302 = x271002_37 then (if x271004_37 = true then (if x271003_37 = 0 then (annexlaw17_RtoClosed.l0 kj37 l2 t302 (wrap64 (x14_2 + 1)) a0_0 a0_1 a0_2 x271000_37 x271001_37 x271002_37 x271003_37 x271004_37) else (some false)) else (some false)) else (some false)) else (annexlaw17_RtoClosed.l0 kj37 l2 t302 (wrap64 (x14_2 + 1)) a0_0 a0_1 a0_2 x271000_37 x271001_37 x271002_37 x271003_37 x271004_37)) else (none)) else (none)) else (some false)) = some r := H
                              have A55 := Aside0.mk A550
                              clear A550
                              by_cases c56 : t301 = true
                              · subst c56
                                have H1 : (if 0 ≤ x14_2 then (if x14_2 < (l2.length : Int) then (if (rd l2 x14_2) ≥ 0 then (if t302 = x271002_37 then (if x271004_37 = true then (if x271003_37 = 0 then (annexlaw17_RtoClosed.l0 kj37 l2 t302 (wrap64 (x14_2 + 1)) a0_0 a0_1 a0_2 x271000_37 x271001_37 x271002_37 x271003_37 x271004_37) else (some false)) else (some false)) else (some false)) else (annexlaw17_RtoClosed.l0 kj37 l2 t302 (wrap64 (x14_2 + 1)) a0_0 a0_1 a0_2 x271000_37 x271001_37 x271002_37 x271003_37 x271004_37)) else (none)) else (none)) = some r := by rw [if_pos rfl] at H; exact H
                                clear H
                                have H := H1
                                clear H1
                                by_cases c57 : 0 ≤ x14_2
                                · rw [if_pos c57] at H
                                  have c57b0 : decide (0 ≤ x14_2) = true := decide_eq_true c57
                                  clear c57
                                  by_cases c58 : x14_2 < (l2.length : Int)
                                  · rw [if_pos c58] at H
                                    have c58b0 : decide (x14_2 < (l2.length : Int)) = true := decide_eq_true c58
                                    clear c58
                                    by_cases c59 : (rd l2 x14_2) ≥ 0
                                    · rw [if_pos c59] at H
                                      have c59b0 : decide (0 ≤ (rd l2 x14_2)) = true := decide_eq_true c59
                                      clear c59
                                      by_cases c60 : t302 = x271002_37
                                      · rw [if_pos c60] at H
                                        have c60b0 : (t302 == x271002_37) = true := beq_iff_eq.mpr c60
                                        have c60b1 : (t302 != x271002_37) = false := bne_eq_false_iff_eq.mpr c60
                                        clear c60
                                        by_cases c61 : x271004_37 = true
                                        · subst c61
                                          have H1 : (if x271003_37 = 0 then (annexlaw17_RtoClosed.l0 kj37 l2 t302 (wrap64 (x14_2 + 1)) a0_0 a0_1 a0_2 x271000_37 x271001_37 x271002_37 x271003_37 true) else (some false)) = some r := by rw [if_pos rfl] at H; exact H
                                          clear H
                                          have H := H1
                                          clear H1
                                          by_cases c62 : x271003_37 = 0
                                          · rw [if_pos c62] at H
                                            have c62b0 : (x271003_37 == 0) = true := beq_iff_eq.mpr c62
                                            have c62b1 : (x271003_37 != 0) = false := bne_eq_false_iff_eq.mpr c62
                                            clear c62
                                            have H' := Aside0.mk H
                                            clear H
                                            have hnb63 := NB269_270.out
                                            have hnc63 := NB270_269.out
                                            have hcz64_0 : wc.cell? ⟨gb269, 0, none⟩ = some (.int .i64 a0_0) := (blk_cell BK269.out 0).trans rfl
                                            have hcz64_1 : wc.cell? ⟨gb269, 1, none⟩ = some (.int .i64 a0_1) := (blk_cell BK269.out 1).trans rfl
                                            have hcz64_2 : wc.cell? ⟨gb269, 2, none⟩ = some (.int .i64 a0_2) := (blk_cell BK269.out 2).trans rfl
                                            have hfz64_0 := blk_frozen BK269.out 0
                                            have hfz64_1 := blk_frozen BK269.out 1
                                            have hfz64_2 := blk_frozen BK269.out 2
                                            have hcz65_0 : wc.cell? ⟨gb270, 0, none⟩ = some (.int .i64 x271000_37) := (blk_cell BK270.out 0).trans rfl
                                            have hcz65_1 : wc.cell? ⟨gb270, 1, none⟩ = some (.int .i64 x271001_37) := (blk_cell BK270.out 1).trans rfl
                                            have hcz65_2 : wc.cell? ⟨gb270, 2, none⟩ = some (.int .i64 x271002_37) := (blk_cell BK270.out 2).trans rfl
                                            have hcz65_3 : wc.cell? ⟨gb270, 3, none⟩ = some (.int .i64 x271003_37) := (blk_cell BK270.out 3).trans rfl
                                            have hcz65_4 : wc.cell? ⟨gb270, 4, none⟩ = some (.bool true) := (blk_cell BK270.out 4).trans rfl
                                            have hfz65_0 := blk_frozen BK270.out 0
                                            have hfz65_1 := blk_frozen BK270.out 1
                                            have hfz65_2 := blk_frozen BK270.out 2
                                            have hfz65_3 := blk_frozen BK270.out 3
                                            have hfz65_4 := blk_frozen BK270.out 4
                                            go_wp2_with (first | ((with_reducible refine gate_callee (f := 24) rfl ?_); refine goesL_ (some 83) rfl rfl Tryd.func24 (by kernel_rfl) rfl #[.agg #[.int .i64 a0_0, .int .i64 a0_1, .int .i64 a0_2], .agg #[.int .i64 x271000_37, .int .i64 x271001_37, .int .i64 x271002_37, .int .i64 x271003_37, .bool true]] rfl (by (try simp only [List.map_toArray, List.map_cons, List.map_nil]); first | done | rfl | (simp only [List.length_drop, List.length_take]; rfl)) ?_; (with_reducible refine (annexlaw17_may.calls a0_0 a0_1 a0_2 x271000_37 x271001_37 x271002_37 x271003_37 true true _ A54.out).mono ?_); rintro e w66 ⟨rfl, hb⟩; refine ⟨_, rfl, ?_⟩; have n0_ := Aside0.mk (blk_below (g := gb269) (o := .cells #[.int .i64 a0_0, .int .i64 a0_1, .int .i64 a0_2] 23 (0, 0)) (by (with_reducible repeat (first | refine blk_drewN ?_ _ | refine blk_drew ?_ | refine blk_alloc ?_ _)); exact BK269.out) hb); have n1_ := Aside0.mk (blk_below (g := gb270) (o := .cells #[.int .i64 x271000_37, .int .i64 x271001_37, .int .i64 x271002_37, .int .i64 x271003_37, .bool true] 26 (0, 0)) (by (with_reducible repeat (first | refine blk_drewN ?_ _ | refine blk_drew ?_ | refine blk_alloc ?_ _)); exact BK270.out) hb); have n2_ := Aside0.mk (below_step (by repeat (first | (with_reducible first | exact HB.out | apply below_alloc | apply pw_below_drewN | apply below_drew1 | refine below_set ?_ GE269.out | refine below_set ?_ GE270.out) | exact HB.out)) hb); clear BK269; clear BK270; clear HB; have BK269 := n0_; have BK270 := n1_; have HB := n2_; clear n0_ n1_ n2_; (try clear hb); (try clear hb2); (try clear hk); (try clear hi); have hcz67_0 : w66.cell? ⟨gb269, 0, none⟩ = some (.int .i64 a0_0) := (blk_cell BK269.out 0).trans rfl; have hcz67_1 : w66.cell? ⟨gb269, 1, none⟩ = some (.int .i64 a0_1) := (blk_cell BK269.out 1).trans rfl; have hcz67_2 : w66.cell? ⟨gb269, 2, none⟩ = some (.int .i64 a0_2) := (blk_cell BK269.out 2).trans rfl; have hfz67_0 := blk_frozen BK269.out 0; have hfz67_1 := blk_frozen BK269.out 1; have hfz67_2 := blk_frozen BK269.out 2; have hcz68_0 : w66.cell? ⟨gb270, 0, none⟩ = some (.int .i64 x271000_37) := (blk_cell BK270.out 0).trans rfl; have hcz68_1 : w66.cell? ⟨gb270, 1, none⟩ = some (.int .i64 x271001_37) := (blk_cell BK270.out 1).trans rfl; have hcz68_2 : w66.cell? ⟨gb270, 2, none⟩ = some (.int .i64 x271002_37) := (blk_cell BK270.out 2).trans rfl; have hcz68_3 : w66.cell? ⟨gb270, 3, none⟩ = some (.int .i64 x271003_37) := (blk_cell BK270.out 3).trans rfl; have hcz68_4 : w66.cell? ⟨gb270, 4, none⟩ = some (.bool true) := (blk_cell BK270.out 4).trans rfl; have hfz68_0 := blk_frozen BK270.out 0; have hfz68_1 := blk_frozen BK270.out 1; have hfz68_2 := blk_frozen BK270.out 2; have hfz68_3 := blk_frozen BK270.out 3; have hfz68_4 := blk_frozen BK270.out 4) | ((with_reducible refine gate_callee (f := 21) rfl ?_); refine goesL_ (some 86) rfl rfl Tryd.func21 (by kernel_rfl) rfl #[.agg #[.int .i64 a0_0, .int .i64 a0_1, .int .i64 a0_2], .agg #[.int .i64 x271000_37, .int .i64 x271001_37, .int .i64 x271002_37, .int .i64 x271003_37, .bool true]] rfl (by (try simp only [List.map_toArray, List.map_cons, List.map_nil]); first | done | rfl | (simp only [List.length_drop, List.length_take]; rfl)) ?_; (with_reducible refine (rto_Wait.calls a0_0 a0_1 a0_2 x271000_37 x271001_37 x271002_37 x271003_37 true t302 _ ?side1 A55.out).mono ?_); (case side1 => exact Tied.below HG.out (by repeat (first | (with_reducible first | exact HB.out | apply below_alloc | apply pw_below_drewN | apply below_drew1 | refine below_set ?_ GE269.out | refine below_set ?_ GE270.out) | exact HB.out))); rintro e w69 ⟨rfl, hb⟩; refine ⟨_, rfl, ?_⟩; have n0_ := Aside0.mk (blk_below (g := gb269) (o := .cells #[.int .i64 a0_0, .int .i64 a0_1, .int .i64 a0_2] 23 (0, 0)) (by (with_reducible repeat (first | refine blk_drewN ?_ _ | refine blk_drew ?_ | refine blk_alloc ?_ _)); exact BK269.out) hb); have n1_ := Aside0.mk (blk_below (g := gb270) (o := .cells #[.int .i64 x271000_37, .int .i64 x271001_37, .int .i64 x271002_37, .int .i64 x271003_37, .bool true] 26 (0, 0)) (by (with_reducible repeat (first | refine blk_drewN ?_ _ | refine blk_drew ?_ | refine blk_alloc ?_ _)); exact BK270.out) hb); have n2_ := Aside0.mk (below_step (by repeat (first | (with_reducible first | exact HB.out | apply below_alloc | apply pw_below_drewN | apply below_drew1 | refine below_set ?_ GE269.out | refine below_set ?_ GE270.out) | exact HB.out)) hb); clear BK269; clear BK270; clear HB; have BK269 := n0_; have BK270 := n1_; have HB := n2_; clear n0_ n1_ n2_; (try clear hb); (try clear hb2); (try clear hk); (try clear hi); have p303 : 0 ≤ (x14_2 : Int) := of_decide_eq_true (by first | (with_reducible assumption) | assumption); have q303 : x14_2 < (l2.length : Int) := of_decide_eq_true (by first | (with_reducible assumption) | assumption); obtain ⟨ad303, e303, hx303_0⟩ := Kd.at_int HR2.out x14_2 p303 q303; obtain rfl : ad289 = ad303 := (by injection e303); replace hx303_0 := (HB.out.cell (World.block_lt_of_cell? w _ hx303_0)).trans hx303_0; replace p303 := eq_true p303; replace q303 := eq_true q303; have hcz70_0 : w69.cell? ⟨gb270, 0, none⟩ = some (.int .i64 x271000_37) := (blk_cell BK270.out 0).trans rfl; have hcz70_1 : w69.cell? ⟨gb270, 1, none⟩ = some (.int .i64 x271001_37) := (blk_cell BK270.out 1).trans rfl; have hcz70_2 : w69.cell? ⟨gb270, 2, none⟩ = some (.int .i64 x271002_37) := (blk_cell BK270.out 2).trans rfl; have hcz70_3 : w69.cell? ⟨gb270, 3, none⟩ = some (.int .i64 x271003_37) := (blk_cell BK270.out 3).trans rfl; have hcz70_4 : w69.cell? ⟨gb270, 4, none⟩ = some (.bool true) := (blk_cell BK270.out 4).trans rfl; have hfz70_0 := blk_frozen BK270.out 0; have hfz70_1 := blk_frozen BK270.out 1; have hfz70_2 := blk_frozen BK270.out 2; have hfz70_3 := blk_frozen BK270.out 3; have hfz70_4 := blk_frozen BK270.out 4))
                                            go_roundg kj37
                                            case measure => have := HJ5.out; have := HK2.out; have := HJ28.out; have := HJ37.out; omega
                                            case rel => exact ⟨(t302), (wrap64 (x14_2 + 1)), (x271000_37), (x271001_37), (x271002_37), (x271003_37), (true), (by first | rfl | (simp; done) | (simp [*]; done)), (by first | rfl | (simp; done) | (simp [*]; done)), H', ⟨by have := HJ5.out; have := HK2.out; have := HJ28.out; have := HJ37.out; omega⟩, ⟨by (with_reducible repeat (first | refine blk_drewN ?_ _ | refine blk_drew ?_ | refine blk_alloc ?_ _)); exact BK269.out⟩, ⟨by (with_reducible repeat (first | refine blk_drewN ?_ _ | refine blk_drew ?_ | refine blk_alloc ?_ _)); exact BK270.out⟩, ⟨by repeat (first | (with_reducible first | exact HB.out | apply below_alloc | apply pw_below_drewN | apply below_drew1 | refine below_set ?_ GE269.out | refine below_set ?_ GE270.out) | exact HB.out)⟩⟩
                                          · rw [if_neg c62] at H
                                            have c62b0 : (x271003_37 == 0) = false := beq_eq_false_iff_ne.mpr c62
                                            have c62b1 : (x271003_37 != 0) = true := bne_iff_ne.mpr c62
                                            obtain rfl := Option.some.inj H
                                            have hnb71 := NB269_270.out
                                            have hnc71 := NB270_269.out
                                            have hcz72_0 : wc.cell? ⟨gb269, 0, none⟩ = some (.int .i64 a0_0) := (blk_cell BK269.out 0).trans rfl
                                            have hcz72_1 : wc.cell? ⟨gb269, 1, none⟩ = some (.int .i64 a0_1) := (blk_cell BK269.out 1).trans rfl
                                            have hcz72_2 : wc.cell? ⟨gb269, 2, none⟩ = some (.int .i64 a0_2) := (blk_cell BK269.out 2).trans rfl
                                            have hfz72_0 := blk_frozen BK269.out 0
                                            have hfz72_1 := blk_frozen BK269.out 1
                                            have hfz72_2 := blk_frozen BK269.out 2
                                            have hcz73_0 : wc.cell? ⟨gb270, 0, none⟩ = some (.int .i64 x271000_37) := (blk_cell BK270.out 0).trans rfl
                                            have hcz73_1 : wc.cell? ⟨gb270, 1, none⟩ = some (.int .i64 x271001_37) := (blk_cell BK270.out 1).trans rfl
                                            have hcz73_2 : wc.cell? ⟨gb270, 2, none⟩ = some (.int .i64 x271002_37) := (blk_cell BK270.out 2).trans rfl
                                            have hcz73_3 : wc.cell? ⟨gb270, 3, none⟩ = some (.int .i64 x271003_37) := (blk_cell BK270.out 3).trans rfl
                                            have hcz73_4 : wc.cell? ⟨gb270, 4, none⟩ = some (.bool true) := (blk_cell BK270.out 4).trans rfl
                                            have hfz73_0 := blk_frozen BK270.out 0
                                            have hfz73_1 := blk_frozen BK270.out 1
                                            have hfz73_2 := blk_frozen BK270.out 2
                                            have hfz73_3 := blk_frozen BK270.out 3
                                            have hfz73_4 := blk_frozen BK270.out 4
                                            go_wp2_with (first | ((with_reducible refine gate_callee (f := 24) rfl ?_); refine goesL_ (some 83) rfl rfl Tryd.func24 (by kernel_rfl) rfl #[.agg #[.int .i64 a0_0, .int .i64 a0_1, .int .i64 a0_2], .agg #[.int .i64 x271000_37, .int .i64 x271001_37, .int .i64 x271002_37, .int .i64 x271003_37, .bool true]] rfl (by (try simp only [List.map_toArray, List.map_cons, List.map_nil]); first | done | rfl | (simp only [List.length_drop, List.length_take]; rfl)) ?_; (with_reducible refine (annexlaw17_may.calls a0_0 a0_1 a0_2 x271000_37 x271001_37 x271002_37 x271003_37 true true _ A54.out).mono ?_); rintro e w74 ⟨rfl, hb⟩; refine ⟨_, rfl, ?_⟩; have n0_ := Aside0.mk (blk_below (g := gb269) (o := .cells #[.int .i64 a0_0, .int .i64 a0_1, .int .i64 a0_2] 23 (0, 0)) (by (with_reducible repeat (first | refine blk_drewN ?_ _ | refine blk_drew ?_ | refine blk_alloc ?_ _)); exact BK269.out) hb); have n1_ := Aside0.mk (blk_below (g := gb270) (o := .cells #[.int .i64 x271000_37, .int .i64 x271001_37, .int .i64 x271002_37, .int .i64 x271003_37, .bool true] 26 (0, 0)) (by (with_reducible repeat (first | refine blk_drewN ?_ _ | refine blk_drew ?_ | refine blk_alloc ?_ _)); exact BK270.out) hb); have n2_ := Aside0.mk (below_step (by repeat (first | (with_reducible first | exact HB.out | apply below_alloc | apply pw_below_drewN | apply below_drew1 | refine below_set ?_ GE269.out | refine below_set ?_ GE270.out) | exact HB.out)) hb); clear BK269; clear BK270; clear HB; have BK269 := n0_; have BK270 := n1_; have HB := n2_; clear n0_ n1_ n2_; (try clear hb); (try clear hb2); (try clear hk); (try clear hi); have hcz75_0 : w74.cell? ⟨gb269, 0, none⟩ = some (.int .i64 a0_0) := (blk_cell BK269.out 0).trans rfl; have hcz75_1 : w74.cell? ⟨gb269, 1, none⟩ = some (.int .i64 a0_1) := (blk_cell BK269.out 1).trans rfl; have hcz75_2 : w74.cell? ⟨gb269, 2, none⟩ = some (.int .i64 a0_2) := (blk_cell BK269.out 2).trans rfl; have hfz75_0 := blk_frozen BK269.out 0; have hfz75_1 := blk_frozen BK269.out 1; have hfz75_2 := blk_frozen BK269.out 2; have hcz76_0 : w74.cell? ⟨gb270, 0, none⟩ = some (.int .i64 x271000_37) := (blk_cell BK270.out 0).trans rfl; have hcz76_1 : w74.cell? ⟨gb270, 1, none⟩ = some (.int .i64 x271001_37) := (blk_cell BK270.out 1).trans rfl; have hcz76_2 : w74.cell? ⟨gb270, 2, none⟩ = some (.int .i64 x271002_37) := (blk_cell BK270.out 2).trans rfl; have hcz76_3 : w74.cell? ⟨gb270, 3, none⟩ = some (.int .i64 x271003_37) := (blk_cell BK270.out 3).trans rfl; have hcz76_4 : w74.cell? ⟨gb270, 4, none⟩ = some (.bool true) := (blk_cell BK270.out 4).trans rfl; have hfz76_0 := blk_frozen BK270.out 0; have hfz76_1 := blk_frozen BK270.out 1; have hfz76_2 := blk_frozen BK270.out 2; have hfz76_3 := blk_frozen BK270.out 3; have hfz76_4 := blk_frozen BK270.out 4) | ((with_reducible refine gate_callee (f := 21) rfl ?_); refine goesL_ (some 86) rfl rfl Tryd.func21 (by kernel_rfl) rfl #[.agg #[.int .i64 a0_0, .int .i64 a0_1, .int .i64 a0_2], .agg #[.int .i64 x271000_37, .int .i64 x271001_37, .int .i64 x271002_37, .int .i64 x271003_37, .bool true]] rfl (by (try simp only [List.map_toArray, List.map_cons, List.map_nil]); first | done | rfl | (simp only [List.length_drop, List.length_take]; rfl)) ?_; (with_reducible refine (rto_Wait.calls a0_0 a0_1 a0_2 x271000_37 x271001_37 x271002_37 x271003_37 true t302 _ ?side1 A55.out).mono ?_); (case side1 => exact Tied.below HG.out (by repeat (first | (with_reducible first | exact HB.out | apply below_alloc | apply pw_below_drewN | apply below_drew1 | refine below_set ?_ GE269.out | refine below_set ?_ GE270.out) | exact HB.out))); rintro e w77 ⟨rfl, hb⟩; refine ⟨_, rfl, ?_⟩; have n0_ := Aside0.mk (blk_below (g := gb269) (o := .cells #[.int .i64 a0_0, .int .i64 a0_1, .int .i64 a0_2] 23 (0, 0)) (by (with_reducible repeat (first | refine blk_drewN ?_ _ | refine blk_drew ?_ | refine blk_alloc ?_ _)); exact BK269.out) hb); have n1_ := Aside0.mk (blk_below (g := gb270) (o := .cells #[.int .i64 x271000_37, .int .i64 x271001_37, .int .i64 x271002_37, .int .i64 x271003_37, .bool true] 26 (0, 0)) (by (with_reducible repeat (first | refine blk_drewN ?_ _ | refine blk_drew ?_ | refine blk_alloc ?_ _)); exact BK270.out) hb); have n2_ := Aside0.mk (below_step (by repeat (first | (with_reducible first | exact HB.out | apply below_alloc | apply pw_below_drewN | apply below_drew1 | refine below_set ?_ GE269.out | refine below_set ?_ GE270.out) | exact HB.out)) hb); clear BK269; clear BK270; clear HB; have BK269 := n0_; have BK270 := n1_; have HB := n2_; clear n0_ n1_ n2_; (try clear hb); (try clear hb2); (try clear hk); (try clear hi); have p303 : 0 ≤ (x14_2 : Int) := of_decide_eq_true (by first | (with_reducible assumption) | assumption); have q303 : x14_2 < (l2.length : Int) := of_decide_eq_true (by first | (with_reducible assumption) | assumption); obtain ⟨ad303, e303, hx303_0⟩ := Kd.at_int HR2.out x14_2 p303 q303; obtain rfl : ad289 = ad303 := (by injection e303); replace hx303_0 := (HB.out.cell (World.block_lt_of_cell? w _ hx303_0)).trans hx303_0; replace p303 := eq_true p303; replace q303 := eq_true q303; have hcz78_0 : w77.cell? ⟨gb270, 0, none⟩ = some (.int .i64 x271000_37) := (blk_cell BK270.out 0).trans rfl; have hcz78_1 : w77.cell? ⟨gb270, 1, none⟩ = some (.int .i64 x271001_37) := (blk_cell BK270.out 1).trans rfl; have hcz78_2 : w77.cell? ⟨gb270, 2, none⟩ = some (.int .i64 x271002_37) := (blk_cell BK270.out 2).trans rfl; have hcz78_3 : w77.cell? ⟨gb270, 3, none⟩ = some (.int .i64 x271003_37) := (blk_cell BK270.out 3).trans rfl; have hcz78_4 : w77.cell? ⟨gb270, 4, none⟩ = some (.bool true) := (blk_cell BK270.out 4).trans rfl; have hfz78_0 := blk_frozen BK270.out 0; have hfz78_1 := blk_frozen BK270.out 1; have hfz78_2 := blk_frozen BK270.out 2; have hfz78_3 := blk_frozen BK270.out 3; have hfz78_4 := blk_frozen BK270.out 4))
                                            go_ret
                                            exact ⟨by first | rfl | (simp [errW_none, errW_some] <;> rfl) | (simp [*, errW_none, errW_some] <;> rfl), by repeat (first | (with_reducible first | exact HB.out | apply below_alloc | apply pw_below_drewN | apply below_drew1 | refine below_set ?_ GE269.out | refine below_set ?_ GE270.out) | exact HB.out)⟩
                                        · replace c61 := Bool.eq_false_iff.mpr c61
                                          subst c61
                                          have H1 : (some false) = some r := by rw [if_neg (show ¬ (false = true) by decide)] at H; exact H
                                          clear H
                                          have H := H1
                                          clear H1
                                          obtain rfl := Option.some.inj H
                                          have hnb79 := NB269_270.out
                                          have hnc79 := NB270_269.out
                                          have hcz80_0 : wc.cell? ⟨gb269, 0, none⟩ = some (.int .i64 a0_0) := (blk_cell BK269.out 0).trans rfl
                                          have hcz80_1 : wc.cell? ⟨gb269, 1, none⟩ = some (.int .i64 a0_1) := (blk_cell BK269.out 1).trans rfl
                                          have hcz80_2 : wc.cell? ⟨gb269, 2, none⟩ = some (.int .i64 a0_2) := (blk_cell BK269.out 2).trans rfl
                                          have hfz80_0 := blk_frozen BK269.out 0
                                          have hfz80_1 := blk_frozen BK269.out 1
                                          have hfz80_2 := blk_frozen BK269.out 2
                                          have hcz81_0 : wc.cell? ⟨gb270, 0, none⟩ = some (.int .i64 x271000_37) := (blk_cell BK270.out 0).trans rfl
                                          have hcz81_1 : wc.cell? ⟨gb270, 1, none⟩ = some (.int .i64 x271001_37) := (blk_cell BK270.out 1).trans rfl
                                          have hcz81_2 : wc.cell? ⟨gb270, 2, none⟩ = some (.int .i64 x271002_37) := (blk_cell BK270.out 2).trans rfl
                                          have hcz81_3 : wc.cell? ⟨gb270, 3, none⟩ = some (.int .i64 x271003_37) := (blk_cell BK270.out 3).trans rfl
                                          have hcz81_4 : wc.cell? ⟨gb270, 4, none⟩ = some (.bool false) := (blk_cell BK270.out 4).trans rfl
                                          have hfz81_0 := blk_frozen BK270.out 0
                                          have hfz81_1 := blk_frozen BK270.out 1
                                          have hfz81_2 := blk_frozen BK270.out 2
                                          have hfz81_3 := blk_frozen BK270.out 3
                                          have hfz81_4 := blk_frozen BK270.out 4
                                          go_wp2_with (first | ((with_reducible refine gate_callee (f := 24) rfl ?_); refine goesL_ (some 83) rfl rfl Tryd.func24 (by kernel_rfl) rfl #[.agg #[.int .i64 a0_0, .int .i64 a0_1, .int .i64 a0_2], .agg #[.int .i64 x271000_37, .int .i64 x271001_37, .int .i64 x271002_37, .int .i64 x271003_37, .bool false]] rfl (by (try simp only [List.map_toArray, List.map_cons, List.map_nil]); first | done | rfl | (simp only [List.length_drop, List.length_take]; rfl)) ?_; (with_reducible refine (annexlaw17_may.calls a0_0 a0_1 a0_2 x271000_37 x271001_37 x271002_37 x271003_37 false true _ A54.out).mono ?_); rintro e w82 ⟨rfl, hb⟩; refine ⟨_, rfl, ?_⟩; have n0_ := Aside0.mk (blk_below (g := gb269) (o := .cells #[.int .i64 a0_0, .int .i64 a0_1, .int .i64 a0_2] 23 (0, 0)) (by (with_reducible repeat (first | refine blk_drewN ?_ _ | refine blk_drew ?_ | refine blk_alloc ?_ _)); exact BK269.out) hb); have n1_ := Aside0.mk (blk_below (g := gb270) (o := .cells #[.int .i64 x271000_37, .int .i64 x271001_37, .int .i64 x271002_37, .int .i64 x271003_37, .bool false] 26 (0, 0)) (by (with_reducible repeat (first | refine blk_drewN ?_ _ | refine blk_drew ?_ | refine blk_alloc ?_ _)); exact BK270.out) hb); have n2_ := Aside0.mk (below_step (by repeat (first | (with_reducible first | exact HB.out | apply below_alloc | apply pw_below_drewN | apply below_drew1 | refine below_set ?_ GE269.out | refine below_set ?_ GE270.out) | exact HB.out)) hb); clear BK269; clear BK270; clear HB; have BK269 := n0_; have BK270 := n1_; have HB := n2_; clear n0_ n1_ n2_; (try clear hb); (try clear hb2); (try clear hk); (try clear hi); have hcz83_0 : w82.cell? ⟨gb269, 0, none⟩ = some (.int .i64 a0_0) := (blk_cell BK269.out 0).trans rfl; have hcz83_1 : w82.cell? ⟨gb269, 1, none⟩ = some (.int .i64 a0_1) := (blk_cell BK269.out 1).trans rfl; have hcz83_2 : w82.cell? ⟨gb269, 2, none⟩ = some (.int .i64 a0_2) := (blk_cell BK269.out 2).trans rfl; have hfz83_0 := blk_frozen BK269.out 0; have hfz83_1 := blk_frozen BK269.out 1; have hfz83_2 := blk_frozen BK269.out 2; have hcz84_0 : w82.cell? ⟨gb270, 0, none⟩ = some (.int .i64 x271000_37) := (blk_cell BK270.out 0).trans rfl; have hcz84_1 : w82.cell? ⟨gb270, 1, none⟩ = some (.int .i64 x271001_37) := (blk_cell BK270.out 1).trans rfl; have hcz84_2 : w82.cell? ⟨gb270, 2, none⟩ = some (.int .i64 x271002_37) := (blk_cell BK270.out 2).trans rfl; have hcz84_3 : w82.cell? ⟨gb270, 3, none⟩ = some (.int .i64 x271003_37) := (blk_cell BK270.out 3).trans rfl; have hcz84_4 : w82.cell? ⟨gb270, 4, none⟩ = some (.bool false) := (blk_cell BK270.out 4).trans rfl; have hfz84_0 := blk_frozen BK270.out 0; have hfz84_1 := blk_frozen BK270.out 1; have hfz84_2 := blk_frozen BK270.out 2; have hfz84_3 := blk_frozen BK270.out 3; have hfz84_4 := blk_frozen BK270.out 4) | ((with_reducible refine gate_callee (f := 21) rfl ?_); refine goesL_ (some 86) rfl rfl Tryd.func21 (by kernel_rfl) rfl #[.agg #[.int .i64 a0_0, .int .i64 a0_1, .int .i64 a0_2], .agg #[.int .i64 x271000_37, .int .i64 x271001_37, .int .i64 x271002_37, .int .i64 x271003_37, .bool false]] rfl (by (try simp only [List.map_toArray, List.map_cons, List.map_nil]); first | done | rfl | (simp only [List.length_drop, List.length_take]; rfl)) ?_; (with_reducible refine (rto_Wait.calls a0_0 a0_1 a0_2 x271000_37 x271001_37 x271002_37 x271003_37 false t302 _ ?side1 A55.out).mono ?_); (case side1 => exact Tied.below HG.out (by repeat (first | (with_reducible first | exact HB.out | apply below_alloc | apply pw_below_drewN | apply below_drew1 | refine below_set ?_ GE269.out | refine below_set ?_ GE270.out) | exact HB.out))); rintro e w85 ⟨rfl, hb⟩; refine ⟨_, rfl, ?_⟩; have n0_ := Aside0.mk (blk_below (g := gb269) (o := .cells #[.int .i64 a0_0, .int .i64 a0_1, .int .i64 a0_2] 23 (0, 0)) (by (with_reducible repeat (first | refine blk_drewN ?_ _ | refine blk_drew ?_ | refine blk_alloc ?_ _)); exact BK269.out) hb); have n1_ := Aside0.mk (blk_below (g := gb270) (o := .cells #[.int .i64 x271000_37, .int .i64 x271001_37, .int .i64 x271002_37, .int .i64 x271003_37, .bool false] 26 (0, 0)) (by (with_reducible repeat (first | refine blk_drewN ?_ _ | refine blk_drew ?_ | refine blk_alloc ?_ _)); exact BK270.out) hb); have n2_ := Aside0.mk (below_step (by repeat (first | (with_reducible first | exact HB.out | apply below_alloc | apply pw_below_drewN | apply below_drew1 | refine below_set ?_ GE269.out | refine below_set ?_ GE270.out) | exact HB.out)) hb); clear BK269; clear BK270; clear HB; have BK269 := n0_; have BK270 := n1_; have HB := n2_; clear n0_ n1_ n2_; (try clear hb); (try clear hb2); (try clear hk); (try clear hi); have p303 : 0 ≤ (x14_2 : Int) := of_decide_eq_true (by first | (with_reducible assumption) | assumption); have q303 : x14_2 < (l2.length : Int) := of_decide_eq_true (by first | (with_reducible assumption) | assumption); obtain ⟨ad303, e303, hx303_0⟩ := Kd.at_int HR2.out x14_2 p303 q303; obtain rfl : ad289 = ad303 := (by injection e303); replace hx303_0 := (HB.out.cell (World.block_lt_of_cell? w _ hx303_0)).trans hx303_0; replace p303 := eq_true p303; replace q303 := eq_true q303; have hcz86_0 : w85.cell? ⟨gb270, 0, none⟩ = some (.int .i64 x271000_37) := (blk_cell BK270.out 0).trans rfl; have hcz86_1 : w85.cell? ⟨gb270, 1, none⟩ = some (.int .i64 x271001_37) := (blk_cell BK270.out 1).trans rfl; have hcz86_2 : w85.cell? ⟨gb270, 2, none⟩ = some (.int .i64 x271002_37) := (blk_cell BK270.out 2).trans rfl; have hcz86_3 : w85.cell? ⟨gb270, 3, none⟩ = some (.int .i64 x271003_37) := (blk_cell BK270.out 3).trans rfl; have hcz86_4 : w85.cell? ⟨gb270, 4, none⟩ = some (.bool false) := (blk_cell BK270.out 4).trans rfl; have hfz86_0 := blk_frozen BK270.out 0; have hfz86_1 := blk_frozen BK270.out 1; have hfz86_2 := blk_frozen BK270.out 2; have hfz86_3 := blk_frozen BK270.out 3; have hfz86_4 := blk_frozen BK270.out 4))
                                          go_ret
                                          exact ⟨by first | rfl | (simp [errW_none, errW_some] <;> rfl) | (simp [*, errW_none, errW_some] <;> rfl), by repeat (first | (with_reducible first | exact HB.out | apply below_alloc | apply pw_below_drewN | apply below_drew1 | refine below_set ?_ GE269.out | refine below_set ?_ GE270.out) | exact HB.out)⟩
                                      · rw [if_neg c60] at H
                                        have c60b0 : (t302 == x271002_37) = false := beq_eq_false_iff_ne.mpr c60
                                        have c60b1 : (t302 != x271002_37) = true := bne_iff_ne.mpr c60
                                        obtain rfl := Option.some.inj H
                                        have hnb87 := NB269_270.out
                                        have hnc87 := NB270_269.out
                                        have hcz88_0 : wc.cell? ⟨gb269, 0, none⟩ = some (.int .i64 a0_0) := (blk_cell BK269.out 0).trans rfl
                                        have hcz88_1 : wc.cell? ⟨gb269, 1, none⟩ = some (.int .i64 a0_1) := (blk_cell BK269.out 1).trans rfl
                                        have hcz88_2 : wc.cell? ⟨gb269, 2, none⟩ = some (.int .i64 a0_2) := (blk_cell BK269.out 2).trans rfl
                                        have hfz88_0 := blk_frozen BK269.out 0
                                        have hfz88_1 := blk_frozen BK269.out 1
                                        have hfz88_2 := blk_frozen BK269.out 2
                                        have hcz89_0 : wc.cell? ⟨gb270, 0, none⟩ = some (.int .i64 x271000_37) := (blk_cell BK270.out 0).trans rfl
                                        have hcz89_1 : wc.cell? ⟨gb270, 1, none⟩ = some (.int .i64 x271001_37) := (blk_cell BK270.out 1).trans rfl
                                        have hcz89_2 : wc.cell? ⟨gb270, 2, none⟩ = some (.int .i64 x271002_37) := (blk_cell BK270.out 2).trans rfl
                                        have hcz89_3 : wc.cell? ⟨gb270, 3, none⟩ = some (.int .i64 x271003_37) := (blk_cell BK270.out 3).trans rfl
                                        have hcz89_4 : wc.cell? ⟨gb270, 4, none⟩ = some (.bool x271004_37) := (blk_cell BK270.out 4).trans rfl
                                        have hfz89_0 := blk_frozen BK270.out 0
                                        have hfz89_1 := blk_frozen BK270.out 1
                                        have hfz89_2 := blk_frozen BK270.out 2
                                        have hfz89_3 := blk_frozen BK270.out 3
                                        have hfz89_4 := blk_frozen BK270.out 4
                                        go_wp2_with (first | ((with_reducible refine gate_callee (f := 24) rfl ?_); refine goesL_ (some 83) rfl rfl Tryd.func24 (by kernel_rfl) rfl #[.agg #[.int .i64 a0_0, .int .i64 a0_1, .int .i64 a0_2], .agg #[.int .i64 x271000_37, .int .i64 x271001_37, .int .i64 x271002_37, .int .i64 x271003_37, .bool x271004_37]] rfl (by (try simp only [List.map_toArray, List.map_cons, List.map_nil]); first | done | rfl | (simp only [List.length_drop, List.length_take]; rfl)) ?_; (with_reducible refine (annexlaw17_may.calls a0_0 a0_1 a0_2 x271000_37 x271001_37 x271002_37 x271003_37 x271004_37 true _ A54.out).mono ?_); rintro e w90 ⟨rfl, hb⟩; refine ⟨_, rfl, ?_⟩; have n0_ := Aside0.mk (blk_below (g := gb269) (o := .cells #[.int .i64 a0_0, .int .i64 a0_1, .int .i64 a0_2] 23 (0, 0)) (by (with_reducible repeat (first | refine blk_drewN ?_ _ | refine blk_drew ?_ | refine blk_alloc ?_ _)); exact BK269.out) hb); have n1_ := Aside0.mk (blk_below (g := gb270) (o := .cells #[.int .i64 x271000_37, .int .i64 x271001_37, .int .i64 x271002_37, .int .i64 x271003_37, .bool x271004_37] 26 (0, 0)) (by (with_reducible repeat (first | refine blk_drewN ?_ _ | refine blk_drew ?_ | refine blk_alloc ?_ _)); exact BK270.out) hb); have n2_ := Aside0.mk (below_step (by repeat (first | (with_reducible first | exact HB.out | apply below_alloc | apply pw_below_drewN | apply below_drew1 | refine below_set ?_ GE269.out | refine below_set ?_ GE270.out) | exact HB.out)) hb); clear BK269; clear BK270; clear HB; have BK269 := n0_; have BK270 := n1_; have HB := n2_; clear n0_ n1_ n2_; (try clear hb); (try clear hb2); (try clear hk); (try clear hi); have hcz91_0 : w90.cell? ⟨gb269, 0, none⟩ = some (.int .i64 a0_0) := (blk_cell BK269.out 0).trans rfl; have hcz91_1 : w90.cell? ⟨gb269, 1, none⟩ = some (.int .i64 a0_1) := (blk_cell BK269.out 1).trans rfl; have hcz91_2 : w90.cell? ⟨gb269, 2, none⟩ = some (.int .i64 a0_2) := (blk_cell BK269.out 2).trans rfl; have hfz91_0 := blk_frozen BK269.out 0; have hfz91_1 := blk_frozen BK269.out 1; have hfz91_2 := blk_frozen BK269.out 2; have hcz92_0 : w90.cell? ⟨gb270, 0, none⟩ = some (.int .i64 x271000_37) := (blk_cell BK270.out 0).trans rfl; have hcz92_1 : w90.cell? ⟨gb270, 1, none⟩ = some (.int .i64 x271001_37) := (blk_cell BK270.out 1).trans rfl; have hcz92_2 : w90.cell? ⟨gb270, 2, none⟩ = some (.int .i64 x271002_37) := (blk_cell BK270.out 2).trans rfl; have hcz92_3 : w90.cell? ⟨gb270, 3, none⟩ = some (.int .i64 x271003_37) := (blk_cell BK270.out 3).trans rfl; have hcz92_4 : w90.cell? ⟨gb270, 4, none⟩ = some (.bool x271004_37) := (blk_cell BK270.out 4).trans rfl; have hfz92_0 := blk_frozen BK270.out 0; have hfz92_1 := blk_frozen BK270.out 1; have hfz92_2 := blk_frozen BK270.out 2; have hfz92_3 := blk_frozen BK270.out 3; have hfz92_4 := blk_frozen BK270.out 4) | ((with_reducible refine gate_callee (f := 21) rfl ?_); refine goesL_ (some 86) rfl rfl Tryd.func21 (by kernel_rfl) rfl #[.agg #[.int .i64 a0_0, .int .i64 a0_1, .int .i64 a0_2], .agg #[.int .i64 x271000_37, .int .i64 x271001_37, .int .i64 x271002_37, .int .i64 x271003_37, .bool x271004_37]] rfl (by (try simp only [List.map_toArray, List.map_cons, List.map_nil]); first | done | rfl | (simp only [List.length_drop, List.length_take]; rfl)) ?_; (with_reducible refine (rto_Wait.calls a0_0 a0_1 a0_2 x271000_37 x271001_37 x271002_37 x271003_37 x271004_37 t302 _ ?side1 A55.out).mono ?_); (case side1 => exact Tied.below HG.out (by repeat (first | (with_reducible first | exact HB.out | apply below_alloc | apply pw_below_drewN | apply below_drew1 | refine below_set ?_ GE269.out | refine below_set ?_ GE270.out) | exact HB.out))); rintro e w93 ⟨rfl, hb⟩; refine ⟨_, rfl, ?_⟩; have n0_ := Aside0.mk (blk_below (g := gb269) (o := .cells #[.int .i64 a0_0, .int .i64 a0_1, .int .i64 a0_2] 23 (0, 0)) (by (with_reducible repeat (first | refine blk_drewN ?_ _ | refine blk_drew ?_ | refine blk_alloc ?_ _)); exact BK269.out) hb); have n1_ := Aside0.mk (blk_below (g := gb270) (o := .cells #[.int .i64 x271000_37, .int .i64 x271001_37, .int .i64 x271002_37, .int .i64 x271003_37, .bool x271004_37] 26 (0, 0)) (by (with_reducible repeat (first | refine blk_drewN ?_ _ | refine blk_drew ?_ | refine blk_alloc ?_ _)); exact BK270.out) hb); have n2_ := Aside0.mk (below_step (by repeat (first | (with_reducible first | exact HB.out | apply below_alloc | apply pw_below_drewN | apply below_drew1 | refine below_set ?_ GE269.out | refine below_set ?_ GE270.out) | exact HB.out)) hb); clear BK269; clear BK270; clear HB; have BK269 := n0_; have BK270 := n1_; have HB := n2_; clear n0_ n1_ n2_; (try clear hb); (try clear hb2); (try clear hk); (try clear hi); have p303 : 0 ≤ (x14_2 : Int) := of_decide_eq_true (by first | (with_reducible assumption) | assumption); have q303 : x14_2 < (l2.length : Int) := of_decide_eq_true (by first | (with_reducible assumption) | assumption); obtain ⟨ad303, e303, hx303_0⟩ := Kd.at_int HR2.out x14_2 p303 q303; obtain rfl : ad289 = ad303 := (by injection e303); replace hx303_0 := (HB.out.cell (World.block_lt_of_cell? w _ hx303_0)).trans hx303_0; replace p303 := eq_true p303; replace q303 := eq_true q303; have hcz94_0 : w93.cell? ⟨gb270, 0, none⟩ = some (.int .i64 x271000_37) := (blk_cell BK270.out 0).trans rfl; have hcz94_1 : w93.cell? ⟨gb270, 1, none⟩ = some (.int .i64 x271001_37) := (blk_cell BK270.out 1).trans rfl; have hcz94_2 : w93.cell? ⟨gb270, 2, none⟩ = some (.int .i64 x271002_37) := (blk_cell BK270.out 2).trans rfl; have hcz94_3 : w93.cell? ⟨gb270, 3, none⟩ = some (.int .i64 x271003_37) := (blk_cell BK270.out 3).trans rfl; have hcz94_4 : w93.cell? ⟨gb270, 4, none⟩ = some (.bool x271004_37) := (blk_cell BK270.out 4).trans rfl; have hfz94_0 := blk_frozen BK270.out 0; have hfz94_1 := blk_frozen BK270.out 1; have hfz94_2 := blk_frozen BK270.out 2; have hfz94_3 := blk_frozen BK270.out 3; have hfz94_4 := blk_frozen BK270.out 4))
                                        go_ret
                                        exact ⟨by first | rfl | (simp [errW_none, errW_some] <;> rfl) | (simp [*, errW_none, errW_some] <;> rfl), by repeat (first | (with_reducible first | exact HB.out | apply below_alloc | apply pw_below_drewN | apply below_drew1 | refine below_set ?_ GE269.out | refine below_set ?_ GE270.out) | exact HB.out)⟩
                                    · rw [if_neg c59] at H
                                      have c59b0 : decide (0 ≤ (rd l2 x14_2)) = false := decide_eq_false c59
                                      clear c59
                                      have H' := Aside0.mk H
                                      clear H
                                      have hnb95 := NB269_270.out
                                      have hnc95 := NB270_269.out
                                      have hcz96_0 : wc.cell? ⟨gb269, 0, none⟩ = some (.int .i64 a0_0) := (blk_cell BK269.out 0).trans rfl
                                      have hcz96_1 : wc.cell? ⟨gb269, 1, none⟩ = some (.int .i64 a0_1) := (blk_cell BK269.out 1).trans rfl
                                      have hcz96_2 : wc.cell? ⟨gb269, 2, none⟩ = some (.int .i64 a0_2) := (blk_cell BK269.out 2).trans rfl
                                      have hfz96_0 := blk_frozen BK269.out 0
                                      have hfz96_1 := blk_frozen BK269.out 1
                                      have hfz96_2 := blk_frozen BK269.out 2
                                      have hcz97_0 : wc.cell? ⟨gb270, 0, none⟩ = some (.int .i64 x271000_37) := (blk_cell BK270.out 0).trans rfl
                                      have hcz97_1 : wc.cell? ⟨gb270, 1, none⟩ = some (.int .i64 x271001_37) := (blk_cell BK270.out 1).trans rfl
                                      have hcz97_2 : wc.cell? ⟨gb270, 2, none⟩ = some (.int .i64 x271002_37) := (blk_cell BK270.out 2).trans rfl
                                      have hcz97_3 : wc.cell? ⟨gb270, 3, none⟩ = some (.int .i64 x271003_37) := (blk_cell BK270.out 3).trans rfl
                                      have hcz97_4 : wc.cell? ⟨gb270, 4, none⟩ = some (.bool x271004_37) := (blk_cell BK270.out 4).trans rfl
                                      have hfz97_0 := blk_frozen BK270.out 0
                                      have hfz97_1 := blk_frozen BK270.out 1
                                      have hfz97_2 := blk_frozen BK270.out 2
                                      have hfz97_3 := blk_frozen BK270.out 3
                                      have hfz97_4 := blk_frozen BK270.out 4
                                      go_wp2_with (first | ((with_reducible refine gate_callee (f := 24) rfl ?_); refine goesL_ (some 83) rfl rfl Tryd.func24 (by kernel_rfl) rfl #[.agg #[.int .i64 a0_0, .int .i64 a0_1, .int .i64 a0_2], .agg #[.int .i64 x271000_37, .int .i64 x271001_37, .int .i64 x271002_37, .int .i64 x271003_37, .bool x271004_37]] rfl (by (try simp only [List.map_toArray, List.map_cons, List.map_nil]); first | done | rfl | (simp only [List.length_drop, List.length_take]; rfl)) ?_; (with_reducible refine (annexlaw17_may.calls a0_0 a0_1 a0_2 x271000_37 x271001_37 x271002_37 x271003_37 x271004_37 true _ A54.out).mono ?_); rintro e w98 ⟨rfl, hb⟩; refine ⟨_, rfl, ?_⟩; have n0_ := Aside0.mk (blk_below (g := gb269) (o := .cells #[.int .i64 a0_0, .int .i64 a0_1, .int .i64 a0_2] 23 (0, 0)) (by (with_reducible repeat (first | refine blk_drewN ?_ _ | refine blk_drew ?_ | refine blk_alloc ?_ _)); exact BK269.out) hb); have n1_ := Aside0.mk (blk_below (g := gb270) (o := .cells #[.int .i64 x271000_37, .int .i64 x271001_37, .int .i64 x271002_37, .int .i64 x271003_37, .bool x271004_37] 26 (0, 0)) (by (with_reducible repeat (first | refine blk_drewN ?_ _ | refine blk_drew ?_ | refine blk_alloc ?_ _)); exact BK270.out) hb); have n2_ := Aside0.mk (below_step (by repeat (first | (with_reducible first | exact HB.out | apply below_alloc | apply pw_below_drewN | apply below_drew1 | refine below_set ?_ GE269.out | refine below_set ?_ GE270.out) | exact HB.out)) hb); clear BK269; clear BK270; clear HB; have BK269 := n0_; have BK270 := n1_; have HB := n2_; clear n0_ n1_ n2_; (try clear hb); (try clear hb2); (try clear hk); (try clear hi); have hcz99_0 : w98.cell? ⟨gb269, 0, none⟩ = some (.int .i64 a0_0) := (blk_cell BK269.out 0).trans rfl; have hcz99_1 : w98.cell? ⟨gb269, 1, none⟩ = some (.int .i64 a0_1) := (blk_cell BK269.out 1).trans rfl; have hcz99_2 : w98.cell? ⟨gb269, 2, none⟩ = some (.int .i64 a0_2) := (blk_cell BK269.out 2).trans rfl; have hfz99_0 := blk_frozen BK269.out 0; have hfz99_1 := blk_frozen BK269.out 1; have hfz99_2 := blk_frozen BK269.out 2; have hcz100_0 : w98.cell? ⟨gb270, 0, none⟩ = some (.int .i64 x271000_37) := (blk_cell BK270.out 0).trans rfl; have hcz100_1 : w98.cell? ⟨gb270, 1, none⟩ = some (.int .i64 x271001_37) := (blk_cell BK270.out 1).trans rfl; have hcz100_2 : w98.cell? ⟨gb270, 2, none⟩ = some (.int .i64 x271002_37) := (blk_cell BK270.out 2).trans rfl; have hcz100_3 : w98.cell? ⟨gb270, 3, none⟩ = some (.int .i64 x271003_37) := (blk_cell BK270.out 3).trans rfl; have hcz100_4 : w98.cell? ⟨gb270, 4, none⟩ = some (.bool x271004_37) := (blk_cell BK270.out 4).trans rfl; have hfz100_0 := blk_frozen BK270.out 0; have hfz100_1 := blk_frozen BK270.out 1; have hfz100_2 := blk_frozen BK270.out 2; have hfz100_3 := blk_frozen BK270.out 3; have hfz100_4 := blk_frozen BK270.out 4) | ((with_reducible refine gate_callee (f := 21) rfl ?_); refine goesL_ (some 86) rfl rfl Tryd.func21 (by kernel_rfl) rfl #[.agg #[.int .i64 a0_0, .int .i64 a0_1, .int .i64 a0_2], .agg #[.int .i64 x271000_37, .int .i64 x271001_37, .int .i64 x271002_37, .int .i64 x271003_37, .bool x271004_37]] rfl (by (try simp only [List.map_toArray, List.map_cons, List.map_nil]); first | done | rfl | (simp only [List.length_drop, List.length_take]; rfl)) ?_; (with_reducible refine (rto_Wait.calls a0_0 a0_1 a0_2 x271000_37 x271001_37 x271002_37 x271003_37 x271004_37 t302 _ ?side1 A55.out).mono ?_); (case side1 => exact Tied.below HG.out (by repeat (first | (with_reducible first | exact HB.out | apply below_alloc | apply pw_below_drewN | apply below_drew1 | refine below_set ?_ GE269.out | refine below_set ?_ GE270.out) | exact HB.out))); rintro e w101 ⟨rfl, hb⟩; refine ⟨_, rfl, ?_⟩; have n0_ := Aside0.mk (blk_below (g := gb269) (o := .cells #[.int .i64 a0_0, .int .i64 a0_1, .int .i64 a0_2] 23 (0, 0)) (by (with_reducible repeat (first | refine blk_drewN ?_ _ | refine blk_drew ?_ | refine blk_alloc ?_ _)); exact BK269.out) hb); have n1_ := Aside0.mk (blk_below (g := gb270) (o := .cells #[.int .i64 x271000_37, .int .i64 x271001_37, .int .i64 x271002_37, .int .i64 x271003_37, .bool x271004_37] 26 (0, 0)) (by (with_reducible repeat (first | refine blk_drewN ?_ _ | refine blk_drew ?_ | refine blk_alloc ?_ _)); exact BK270.out) hb); have n2_ := Aside0.mk (below_step (by repeat (first | (with_reducible first | exact HB.out | apply below_alloc | apply pw_below_drewN | apply below_drew1 | refine below_set ?_ GE269.out | refine below_set ?_ GE270.out) | exact HB.out)) hb); clear BK269; clear BK270; clear HB; have BK269 := n0_; have BK270 := n1_; have HB := n2_; clear n0_ n1_ n2_; (try clear hb); (try clear hb2); (try clear hk); (try clear hi); have p303 : 0 ≤ (x14_2 : Int) := of_decide_eq_true (by first | (with_reducible assumption) | assumption); have q303 : x14_2 < (l2.length : Int) := of_decide_eq_true (by first | (with_reducible assumption) | assumption); obtain ⟨ad303, e303, hx303_0⟩ := Kd.at_int HR2.out x14_2 p303 q303; obtain rfl : ad289 = ad303 := (by injection e303); replace hx303_0 := (HB.out.cell (World.block_lt_of_cell? w _ hx303_0)).trans hx303_0; replace p303 := eq_true p303; replace q303 := eq_true q303))
                                      go_roundg kj37
                                      case measure => have := HJ5.out; have := HK2.out; have := HJ28.out; have := HJ37.out; omega
                                      case rel => exact ⟨(t302), (wrap64 (x14_2 + 1)), (x271000_37), (x271001_37), (x271002_37), (x271003_37), (x271004_37), (by first | rfl | (simp; done) | (simp [*]; done)), (by first | rfl | (simp; done) | (simp [*]; done)), H', ⟨by have := HJ5.out; have := HK2.out; have := HJ28.out; have := HJ37.out; omega⟩, ⟨by (with_reducible repeat (first | refine blk_drewN ?_ _ | refine blk_drew ?_ | refine blk_alloc ?_ _)); exact BK269.out⟩, ⟨by (with_reducible repeat (first | refine blk_drewN ?_ _ | refine blk_drew ?_ | refine blk_alloc ?_ _)); exact BK270.out⟩, ⟨by repeat (first | (with_reducible first | exact HB.out | apply below_alloc | apply pw_below_drewN | apply below_drew1 | refine below_set ?_ GE269.out | refine below_set ?_ GE270.out) | exact HB.out)⟩⟩
                                  · rw [if_neg c58] at H
                                    exact absurd H (by simp)
                                · rw [if_neg c57] at H
                                  exact absurd H (by simp)
                              · replace c56 := Bool.eq_false_iff.mpr c56
                                subst c56
                                have H1 : (some false) = some r := by rw [if_neg (show ¬ (false = true) by decide)] at H; exact H
                                clear H
                                have H := H1
                                clear H1
                                obtain rfl := Option.some.inj H
                                have hnb102 := NB269_270.out
                                have hnc102 := NB270_269.out
                                have hcz103_0 : wc.cell? ⟨gb269, 0, none⟩ = some (.int .i64 a0_0) := (blk_cell BK269.out 0).trans rfl
                                have hcz103_1 : wc.cell? ⟨gb269, 1, none⟩ = some (.int .i64 a0_1) := (blk_cell BK269.out 1).trans rfl
                                have hcz103_2 : wc.cell? ⟨gb269, 2, none⟩ = some (.int .i64 a0_2) := (blk_cell BK269.out 2).trans rfl
                                have hfz103_0 := blk_frozen BK269.out 0
                                have hfz103_1 := blk_frozen BK269.out 1
                                have hfz103_2 := blk_frozen BK269.out 2
                                have hcz104_0 : wc.cell? ⟨gb270, 0, none⟩ = some (.int .i64 x271000_37) := (blk_cell BK270.out 0).trans rfl
                                have hcz104_1 : wc.cell? ⟨gb270, 1, none⟩ = some (.int .i64 x271001_37) := (blk_cell BK270.out 1).trans rfl
                                have hcz104_2 : wc.cell? ⟨gb270, 2, none⟩ = some (.int .i64 x271002_37) := (blk_cell BK270.out 2).trans rfl
                                have hcz104_3 : wc.cell? ⟨gb270, 3, none⟩ = some (.int .i64 x271003_37) := (blk_cell BK270.out 3).trans rfl
                                have hcz104_4 : wc.cell? ⟨gb270, 4, none⟩ = some (.bool x271004_37) := (blk_cell BK270.out 4).trans rfl
                                have hfz104_0 := blk_frozen BK270.out 0
                                have hfz104_1 := blk_frozen BK270.out 1
                                have hfz104_2 := blk_frozen BK270.out 2
                                have hfz104_3 := blk_frozen BK270.out 3
                                have hfz104_4 := blk_frozen BK270.out 4
                                go_wp2_with (first | ((with_reducible refine gate_callee (f := 24) rfl ?_); refine goesL_ (some 83) rfl rfl Tryd.func24 (by kernel_rfl) rfl #[.agg #[.int .i64 a0_0, .int .i64 a0_1, .int .i64 a0_2], .agg #[.int .i64 x271000_37, .int .i64 x271001_37, .int .i64 x271002_37, .int .i64 x271003_37, .bool x271004_37]] rfl (by (try simp only [List.map_toArray, List.map_cons, List.map_nil]); first | done | rfl | (simp only [List.length_drop, List.length_take]; rfl)) ?_; (with_reducible refine (annexlaw17_may.calls a0_0 a0_1 a0_2 x271000_37 x271001_37 x271002_37 x271003_37 x271004_37 false _ A54.out).mono ?_); rintro e w105 ⟨rfl, hb⟩; refine ⟨_, rfl, ?_⟩; have n0_ := Aside0.mk (blk_below (g := gb269) (o := .cells #[.int .i64 a0_0, .int .i64 a0_1, .int .i64 a0_2] 23 (0, 0)) (by (with_reducible repeat (first | refine blk_drewN ?_ _ | refine blk_drew ?_ | refine blk_alloc ?_ _)); exact BK269.out) hb); have n1_ := Aside0.mk (blk_below (g := gb270) (o := .cells #[.int .i64 x271000_37, .int .i64 x271001_37, .int .i64 x271002_37, .int .i64 x271003_37, .bool x271004_37] 26 (0, 0)) (by (with_reducible repeat (first | refine blk_drewN ?_ _ | refine blk_drew ?_ | refine blk_alloc ?_ _)); exact BK270.out) hb); have n2_ := Aside0.mk (below_step (by repeat (first | (with_reducible first | exact HB.out | apply below_alloc | apply pw_below_drewN | apply below_drew1 | refine below_set ?_ GE269.out | refine below_set ?_ GE270.out) | exact HB.out)) hb); clear BK269; clear BK270; clear HB; have BK269 := n0_; have BK270 := n1_; have HB := n2_; clear n0_ n1_ n2_; (try clear hb); (try clear hb2); (try clear hk); (try clear hi); have hcz106_0 : w105.cell? ⟨gb269, 0, none⟩ = some (.int .i64 a0_0) := (blk_cell BK269.out 0).trans rfl; have hcz106_1 : w105.cell? ⟨gb269, 1, none⟩ = some (.int .i64 a0_1) := (blk_cell BK269.out 1).trans rfl; have hcz106_2 : w105.cell? ⟨gb269, 2, none⟩ = some (.int .i64 a0_2) := (blk_cell BK269.out 2).trans rfl; have hfz106_0 := blk_frozen BK269.out 0; have hfz106_1 := blk_frozen BK269.out 1; have hfz106_2 := blk_frozen BK269.out 2; have hcz107_0 : w105.cell? ⟨gb270, 0, none⟩ = some (.int .i64 x271000_37) := (blk_cell BK270.out 0).trans rfl; have hcz107_1 : w105.cell? ⟨gb270, 1, none⟩ = some (.int .i64 x271001_37) := (blk_cell BK270.out 1).trans rfl; have hcz107_2 : w105.cell? ⟨gb270, 2, none⟩ = some (.int .i64 x271002_37) := (blk_cell BK270.out 2).trans rfl; have hcz107_3 : w105.cell? ⟨gb270, 3, none⟩ = some (.int .i64 x271003_37) := (blk_cell BK270.out 3).trans rfl; have hcz107_4 : w105.cell? ⟨gb270, 4, none⟩ = some (.bool x271004_37) := (blk_cell BK270.out 4).trans rfl; have hfz107_0 := blk_frozen BK270.out 0; have hfz107_1 := blk_frozen BK270.out 1; have hfz107_2 := blk_frozen BK270.out 2; have hfz107_3 := blk_frozen BK270.out 3; have hfz107_4 := blk_frozen BK270.out 4) | ((with_reducible refine gate_callee (f := 21) rfl ?_); refine goesL_ (some 86) rfl rfl Tryd.func21 (by kernel_rfl) rfl #[.agg #[.int .i64 a0_0, .int .i64 a0_1, .int .i64 a0_2], .agg #[.int .i64 x271000_37, .int .i64 x271001_37, .int .i64 x271002_37, .int .i64 x271003_37, .bool x271004_37]] rfl (by (try simp only [List.map_toArray, List.map_cons, List.map_nil]); first | done | rfl | (simp only [List.length_drop, List.length_take]; rfl)) ?_; (with_reducible refine (rto_Wait.calls a0_0 a0_1 a0_2 x271000_37 x271001_37 x271002_37 x271003_37 x271004_37 t302 _ ?side1 A55.out).mono ?_); (case side1 => exact Tied.below HG.out (by repeat (first | (with_reducible first | exact HB.out | apply below_alloc | apply pw_below_drewN | apply below_drew1 | refine below_set ?_ GE269.out | refine below_set ?_ GE270.out) | exact HB.out))); rintro e w108 ⟨rfl, hb⟩; refine ⟨_, rfl, ?_⟩; have n0_ := Aside0.mk (blk_below (g := gb269) (o := .cells #[.int .i64 a0_0, .int .i64 a0_1, .int .i64 a0_2] 23 (0, 0)) (by (with_reducible repeat (first | refine blk_drewN ?_ _ | refine blk_drew ?_ | refine blk_alloc ?_ _)); exact BK269.out) hb); have n1_ := Aside0.mk (blk_below (g := gb270) (o := .cells #[.int .i64 x271000_37, .int .i64 x271001_37, .int .i64 x271002_37, .int .i64 x271003_37, .bool x271004_37] 26 (0, 0)) (by (with_reducible repeat (first | refine blk_drewN ?_ _ | refine blk_drew ?_ | refine blk_alloc ?_ _)); exact BK270.out) hb); have n2_ := Aside0.mk (below_step (by repeat (first | (with_reducible first | exact HB.out | apply below_alloc | apply pw_below_drewN | apply below_drew1 | refine below_set ?_ GE269.out | refine below_set ?_ GE270.out) | exact HB.out)) hb); clear BK269; clear BK270; clear HB; have BK269 := n0_; have BK270 := n1_; have HB := n2_; clear n0_ n1_ n2_; (try clear hb); (try clear hb2); (try clear hk); (try clear hi)))
                                go_ret
                                exact ⟨by first | rfl | (simp [errW_none, errW_some] <;> rfl) | (simp [*, errW_none, errW_some] <;> rfl), by repeat (first | (with_reducible first | exact HB.out | apply below_alloc | apply pw_below_drewN | apply below_drew1 | refine below_set ?_ GE269.out | refine below_set ?_ GE270.out) | exact HB.out)⟩
                        · rw [if_neg c37] at H
                          exact absurd H (by simp)
                      · rw [if_neg c36] at H
                        exact absurd H (by simp)
              · rw [if_neg c28] at H
                have c28b0 : decide (x14_2 < (l2.length : Int)) = false := decide_eq_false c28
                clear c28
                by_cases c109 : x9_2 ≥ a0_0
                · rw [if_pos c109] at H
                  have c109b0 : decide (a0_0 ≤ x9_2) = true := decide_eq_true c109
                  clear c109
                  obtain rfl := Option.some.inj H
                  have hnb110 := NB269_270.out
                  have hnc110 := NB270_269.out
                  have hcz111_0 : wr.cell? ⟨gb269, 0, none⟩ = some (.int .i64 a0_0) := (blk_cell BK269.out 0).trans rfl
                  have hcz111_1 : wr.cell? ⟨gb269, 1, none⟩ = some (.int .i64 a0_1) := (blk_cell BK269.out 1).trans rfl
                  have hcz111_2 : wr.cell? ⟨gb269, 2, none⟩ = some (.int .i64 a0_2) := (blk_cell BK269.out 2).trans rfl
                  have hfz111_0 := blk_frozen BK269.out 0
                  have hfz111_1 := blk_frozen BK269.out 1
                  have hfz111_2 := blk_frozen BK269.out 2
                  go_wp2
                  go_ret
                  exact ⟨by first | rfl | (simp [errW_none, errW_some] <;> rfl) | (simp [*, errW_none, errW_some] <;> rfl), by repeat (first | (with_reducible first | exact HB.out | apply below_alloc | apply pw_below_drewN | apply below_drew1 | refine below_set ?_ GE269.out | refine below_set ?_ GE270.out) | exact HB.out)⟩
                · rw [if_neg c109] at H
                  have c109b0 : decide (a0_0 ≤ x9_2) = false := decide_eq_false c109
                  clear c109
                  obtain rfl := Option.some.inj H
                  have hnb112 := NB269_270.out
                  have hnc112 := NB270_269.out
                  have hcz113_0 : wr.cell? ⟨gb269, 0, none⟩ = some (.int .i64 a0_0) := (blk_cell BK269.out 0).trans rfl
                  have hcz113_1 : wr.cell? ⟨gb269, 1, none⟩ = some (.int .i64 a0_1) := (blk_cell BK269.out 1).trans rfl
                  have hcz113_2 : wr.cell? ⟨gb269, 2, none⟩ = some (.int .i64 a0_2) := (blk_cell BK269.out 2).trans rfl
                  have hfz113_0 := blk_frozen BK269.out 0
                  have hfz113_1 := blk_frozen BK269.out 1
                  have hfz113_2 := blk_frozen BK269.out 2
                  go_wp2
                  go_ret
                  exact ⟨by first | rfl | (simp [errW_none, errW_some] <;> rfl) | (simp [*, errW_none, errW_some] <;> rfl), by repeat (first | (with_reducible first | exact HB.out | apply below_alloc | apply pw_below_drewN | apply below_drew1 | refine below_set ?_ GE269.out | refine below_set ?_ GE270.out) | exact HB.out)⟩
        · replace c23 := Bool.eq_false_iff.mpr c23
          subst c23
          have H1 : ((rto_Sample.f a0_0 a0_1 a0_2 a1_0 a1_1 a1_2 a1_3 a1_4 7).bind fun bt275 => ((rto_Expire.f a0_0 a0_1 a0_2 a1_0 a1_1 a1_2 a1_3 a1_4).bind fun bt281 => ((annexref_SameEst.f bt275.1 bt275.2.1 bt275.2.2.1 bt275.2.2.2.1 bt275.2.2.2.2 0 0 0 0 false).bind fun t287 => ((annexref_SameEst.f bt281.1 bt281.2.1 bt281.2.2.1 bt281.2.2.2.1 bt281.2.2.2.2 0 0 0 0 false).bind fun t288 => (if t287 = true then (if t288 = true then (some (t274 == 0)) else (some false)) else (some false)))))) = some r := by rw [if_neg (show ¬ (false = true) by decide)] at H; exact H
          clear H
          have H := H1
          clear H1
          replace H := Option.bind_eq_some_iff.mp H
          obtain ⟨⟨t275, t276, t277, t278, t279⟩, A1140, H⟩ := H
          replace H : ((rto_Expire.f a0_0 a0_1 a0_2 a1_0 a1_1 a1_2 a1_3 a1_4).bind fun bt281 => ((annexref_SameEst.f t275 t276 t277 t278 t279 0 0 0 0 false).bind fun t287 => ((annexref_SameEst.f bt281.1 bt281.2.1 bt281.2.2.1 bt281.2.2.2.1 bt281.2.2.2.2 0 0 0 0 false).bind fun t288 => (if t287 = true then (if t288 = true then (some (t274 == 0)) else (some false)) else (some false))))) = some r := H
          have A114 := Aside0.mk A1140
          clear A1140
          replace H := Option.bind_eq_some_iff.mp H
          obtain ⟨⟨t281, t282, t283, t284, t285⟩, A1150, H⟩ := H
          replace H : ((annexref_SameEst.f t275 t276 t277 t278 t279 0 0 0 0 false).bind fun t287 => ((annexref_SameEst.f t281 t282 t283 t284 t285 0 0 0 0 false).bind fun t288 => (if t287 = true then (if t288 = true then (some (t274 == 0)) else (some false)) else (some false)))) = some r := H
          have A115 := Aside0.mk A1150
          clear A1150
          replace H := Option.bind_eq_some_iff.mp H
          obtain ⟨t287, A1160, H⟩ := H
          replace H : ((annexref_SameEst.f t281 t282 t283 t284 t285 0 0 0 0 false).bind fun t288 => (if t287 = true then (if t288 = true then (some (t274 == 0)) else (some false)) else (some false))) = some r := H
          have A116 := Aside0.mk A1160
          clear A1160
          replace H := Option.bind_eq_some_iff.mp H
          obtain ⟨t288, A1170, H⟩ := H
          replace H : (if t287 = true then (if t288 = true then (some (t274 == 0)) else (some false)) else (some false)) = some r := H
          have A117 := Aside0.mk A1170
          clear A1170
          by_cases c118 : t287 = true
          · subst c118
            have H1 : (if t288 = true then (some (t274 == 0)) else (some false)) = some r := by rw [if_pos rfl] at H; exact H
            clear H
            have H := H1
            clear H1
            by_cases c119 : t288 = true
            · subst c119
              have H1 : (some (t274 == 0)) = some r := by rw [if_pos rfl] at H; exact H
              clear H
              have H := H1
              clear H1
              obtain rfl := Option.some.inj H
              have hnb120 := NB269_270.out
              have hnc120 := NB270_269.out
              have hcz121_0 : wc.cell? ⟨gb269, 0, none⟩ = some (.int .i64 a0_0) := (blk_cell BK269.out 0).trans rfl
              have hcz121_1 : wc.cell? ⟨gb269, 1, none⟩ = some (.int .i64 a0_1) := (blk_cell BK269.out 1).trans rfl
              have hcz121_2 : wc.cell? ⟨gb269, 2, none⟩ = some (.int .i64 a0_2) := (blk_cell BK269.out 2).trans rfl
              have hfz121_0 := blk_frozen BK269.out 0
              have hfz121_1 := blk_frozen BK269.out 1
              have hfz121_2 := blk_frozen BK269.out 2
              have hcz122_0 : wc.cell? ⟨gb270, 0, none⟩ = some (.int .i64 a1_0) := (blk_cell BK270.out 0).trans rfl
              have hcz122_1 : wc.cell? ⟨gb270, 1, none⟩ = some (.int .i64 a1_1) := (blk_cell BK270.out 1).trans rfl
              have hcz122_2 : wc.cell? ⟨gb270, 2, none⟩ = some (.int .i64 a1_2) := (blk_cell BK270.out 2).trans rfl
              have hcz122_3 : wc.cell? ⟨gb270, 3, none⟩ = some (.int .i64 a1_3) := (blk_cell BK270.out 3).trans rfl
              have hcz122_4 : wc.cell? ⟨gb270, 4, none⟩ = some (.bool a1_4) := (blk_cell BK270.out 4).trans rfl
              have hfz122_0 := blk_frozen BK270.out 0
              have hfz122_1 := blk_frozen BK270.out 1
              have hfz122_2 := blk_frozen BK270.out 2
              have hfz122_3 := blk_frozen BK270.out 3
              have hfz122_4 := blk_frozen BK270.out 4
              go_wp2_with (first | ((with_reducible refine gate_callee (f := 21) rfl ?_); refine goesL_ (some 27) rfl rfl Tryd.func21 (by kernel_rfl) rfl #[.agg #[.int .i64 a0_0, .int .i64 a0_1, .int .i64 a0_2], .agg #[.int .i64 a1_0, .int .i64 a1_1, .int .i64 a1_2, .int .i64 a1_3, .bool a1_4]] rfl (by (try simp only [List.map_toArray, List.map_cons, List.map_nil]); first | done | rfl | (simp only [List.length_drop, List.length_take]; rfl)) ?_; (with_reducible refine (rto_Wait.calls a0_0 a0_1 a0_2 a1_0 a1_1 a1_2 a1_3 a1_4 t274 _ ?side1 A22.out).mono ?_); (case side1 => exact Tied.below HG.out (by repeat (first | (with_reducible first | exact HB.out | apply below_alloc | apply pw_below_drewN | apply below_drew1 | refine below_set ?_ GE269.out | refine below_set ?_ GE270.out) | exact HB.out))); rintro e w123 ⟨rfl, hb⟩; refine ⟨_, rfl, ?_⟩; have n0_ := Aside0.mk (blk_below (g := gb269) (o := .cells #[.int .i64 a0_0, .int .i64 a0_1, .int .i64 a0_2] 23 (0, 0)) (by (with_reducible repeat (first | refine blk_drewN ?_ _ | refine blk_drew ?_ | refine blk_alloc ?_ _)); exact BK269.out) hb); have n1_ := Aside0.mk (blk_below (g := gb270) (o := .cells #[.int .i64 a1_0, .int .i64 a1_1, .int .i64 a1_2, .int .i64 a1_3, .bool a1_4] 26 (0, 0)) (by (with_reducible repeat (first | refine blk_drewN ?_ _ | refine blk_drew ?_ | refine blk_alloc ?_ _)); exact BK270.out) hb); have n2_ := Aside0.mk (below_step (by repeat (first | (with_reducible first | exact HB.out | apply below_alloc | apply pw_below_drewN | apply below_drew1 | refine below_set ?_ GE269.out | refine below_set ?_ GE270.out) | exact HB.out)) hb); clear BK269; clear BK270; clear HB; have BK269 := n0_; have BK270 := n1_; have HB := n2_; clear n0_ n1_ n2_; (try clear hb); (try clear hb2); (try clear hk); (try clear hi); have hcz124_0 : w123.cell? ⟨gb269, 0, none⟩ = some (.int .i64 a0_0) := (blk_cell BK269.out 0).trans rfl; have hcz124_1 : w123.cell? ⟨gb269, 1, none⟩ = some (.int .i64 a0_1) := (blk_cell BK269.out 1).trans rfl; have hcz124_2 : w123.cell? ⟨gb269, 2, none⟩ = some (.int .i64 a0_2) := (blk_cell BK269.out 2).trans rfl; have hfz124_0 := blk_frozen BK269.out 0; have hfz124_1 := blk_frozen BK269.out 1; have hfz124_2 := blk_frozen BK269.out 2; have hcz125_0 : w123.cell? ⟨gb270, 0, none⟩ = some (.int .i64 a1_0) := (blk_cell BK270.out 0).trans rfl; have hcz125_1 : w123.cell? ⟨gb270, 1, none⟩ = some (.int .i64 a1_1) := (blk_cell BK270.out 1).trans rfl; have hcz125_2 : w123.cell? ⟨gb270, 2, none⟩ = some (.int .i64 a1_2) := (blk_cell BK270.out 2).trans rfl; have hcz125_3 : w123.cell? ⟨gb270, 3, none⟩ = some (.int .i64 a1_3) := (blk_cell BK270.out 3).trans rfl; have hcz125_4 : w123.cell? ⟨gb270, 4, none⟩ = some (.bool a1_4) := (blk_cell BK270.out 4).trans rfl; have hfz125_0 := blk_frozen BK270.out 0; have hfz125_1 := blk_frozen BK270.out 1; have hfz125_2 := blk_frozen BK270.out 2; have hfz125_3 := blk_frozen BK270.out 3; have hfz125_4 := blk_frozen BK270.out 4) | ((with_reducible refine gate_callee (f := 17) rfl ?_); refine goesL_ (some 32) rfl rfl Tryd.func17 (by kernel_rfl) rfl #[.agg #[.int .i64 a0_0, .int .i64 a0_1, .int .i64 a0_2], .agg #[.int .i64 a1_0, .int .i64 a1_1, .int .i64 a1_2, .int .i64 a1_3, .bool a1_4], .int .i64 7] rfl (by (try simp only [List.map_toArray, List.map_cons, List.map_nil]); first | done | rfl | (simp only [List.length_drop, List.length_take]; rfl)) ?_; (with_reducible refine (rto_Sample.calls a0_0 a0_1 a0_2 a1_0 a1_1 a1_2 a1_3 a1_4 7 t275 t276 t277 t278 t279 _ ?side1 A114.out).mono ?_); (case side1 => exact Tied.below HG.out (by repeat (first | (with_reducible first | exact HB.out | apply below_alloc | apply pw_below_drewN | apply below_drew1 | refine below_set ?_ GE269.out | refine below_set ?_ GE270.out) | exact HB.out))); rintro e w126 ⟨rfl, hb⟩; refine ⟨_, rfl, ?_⟩; have n0_ := Aside0.mk (blk_below (g := gb269) (o := .cells #[.int .i64 a0_0, .int .i64 a0_1, .int .i64 a0_2] 23 (0, 0)) (by (with_reducible repeat (first | refine blk_drewN ?_ _ | refine blk_drew ?_ | refine blk_alloc ?_ _)); exact BK269.out) hb); have n1_ := Aside0.mk (blk_below (g := gb270) (o := .cells #[.int .i64 a1_0, .int .i64 a1_1, .int .i64 a1_2, .int .i64 a1_3, .bool a1_4] 26 (0, 0)) (by (with_reducible repeat (first | refine blk_drewN ?_ _ | refine blk_drew ?_ | refine blk_alloc ?_ _)); exact BK270.out) hb); have n2_ := Aside0.mk (below_step (by repeat (first | (with_reducible first | exact HB.out | apply below_alloc | apply pw_below_drewN | apply below_drew1 | refine below_set ?_ GE269.out | refine below_set ?_ GE270.out) | exact HB.out)) hb); clear BK269; clear BK270; clear HB; have BK269 := n0_; have BK270 := n1_; have HB := n2_; clear n0_ n1_ n2_; (try clear hb); (try clear hb2); (try clear hk); (try clear hi)) | ((with_reducible refine gate_dst (N := 10) rfl ?_); refine box_event ?hg (N := 10) ?hd (cs := #[.int .i64 0, .int .i64 0, .int .i64 0, .int .i64 0, .bool false]) (t := 26) ?hr ?_; (case hd => rfl); (case hg => rfl); (case hr => first | (go_simp; done) | (go_simp; rfl)); intro gb280 hg w127 hbox hb; have n0_ := Aside0.mk (blk_below (g := gb269) (o := .cells #[.int .i64 a0_0, .int .i64 a0_1, .int .i64 a0_2] 23 (0, 0)) (by (with_reducible repeat (first | refine blk_drewN ?_ _ | refine blk_drew ?_ | refine blk_alloc ?_ _)); exact BK269.out) hb); have n1_ := Aside0.mk (blk_below (g := gb270) (o := .cells #[.int .i64 a1_0, .int .i64 a1_1, .int .i64 a1_2, .int .i64 a1_3, .bool a1_4] 26 (0, 0)) (by (with_reducible repeat (first | refine blk_drewN ?_ _ | refine blk_drew ?_ | refine blk_alloc ?_ _)); exact BK270.out) hb); have n2_ := Aside0.mk (below_step (by repeat (first | (with_reducible first | exact HB.out | apply below_alloc | apply pw_below_drewN | apply below_drew1 | refine below_set ?_ GE269.out | refine below_set ?_ GE270.out) | exact HB.out)) hb); have n3_ := Aside0.mk (hbox); have n4_ := Aside0.mk ((by rw [hg]; exact (below_size (by repeat (first | (with_reducible first | exact HB.out | apply below_alloc | apply pw_below_drewN | apply below_drew1 | refine below_set ?_ GE269.out | refine below_set ?_ GE270.out) | exact HB.out))) : w.heap.size ≤ gb280)); have n5_ := Aside0.mk ((by rw [hg]; exact (below_size (by repeat (first | (with_reducible first | exact HB.out | apply below_alloc | apply pw_below_drewN | apply below_drew1 | refine below_set ?_ GE269.out | refine below_set ?_ GE270.out) | exact HB.out))) : w.heap.size ≤ gb280)); have n6_ := Aside0.mk ((by rw [hg]; exact Nat.ne_of_lt (blk_lt (g := gb269) (o := .cells #[.int .i64 a0_0, .int .i64 a0_1, .int .i64 a0_2] 23 (0, 0)) (by (with_reducible repeat (first | refine blk_drewN ?_ _ | refine blk_drew ?_ | refine blk_alloc ?_ _)); exact BK269.out)) : gb269 ≠ gb280)); have n7_ := Aside0.mk ((by rw [hg]; exact Nat.ne_of_gt (blk_lt (g := gb269) (o := .cells #[.int .i64 a0_0, .int .i64 a0_1, .int .i64 a0_2] 23 (0, 0)) (by (with_reducible repeat (first | refine blk_drewN ?_ _ | refine blk_drew ?_ | refine blk_alloc ?_ _)); exact BK269.out)) : gb280 ≠ gb269)); have n8_ := Aside0.mk ((by rw [hg]; exact Nat.ne_of_lt (blk_lt (g := gb270) (o := .cells #[.int .i64 a1_0, .int .i64 a1_1, .int .i64 a1_2, .int .i64 a1_3, .bool a1_4] 26 (0, 0)) (by (with_reducible repeat (first | refine blk_drewN ?_ _ | refine blk_drew ?_ | refine blk_alloc ?_ _)); exact BK270.out)) : gb270 ≠ gb280)); have n9_ := Aside0.mk ((by rw [hg]; exact Nat.ne_of_gt (blk_lt (g := gb270) (o := .cells #[.int .i64 a1_0, .int .i64 a1_1, .int .i64 a1_2, .int .i64 a1_3, .bool a1_4] 26 (0, 0)) (by (with_reducible repeat (first | refine blk_drewN ?_ _ | refine blk_drew ?_ | refine blk_alloc ?_ _)); exact BK270.out)) : gb280 ≠ gb270)); clear BK269; clear BK270; clear HB; have BK269 := n0_; have BK270 := n1_; have HB := n2_; have BK280 := n3_; have GW280 := n4_; have GE280 := n5_; have NB269_280 := n6_; have NB280_269 := n7_; have NB270_280 := n8_; have NB280_270 := n9_; clear n0_ n1_ n2_ n3_ n4_ n5_ n6_ n7_ n8_ n9_; clear hb hbox hg; have hnb128 := NB280_269.out; have hnc128 := NB269_280.out; have hnb129 := NB280_270.out; have hnc129 := NB270_280.out; have hcz130_0 : w127.cell? ⟨gb280, 0, none⟩ = some (.int .i64 0) := (blk_cell BK280.out 0).trans rfl; have hcz130_1 : w127.cell? ⟨gb280, 1, none⟩ = some (.int .i64 0) := (blk_cell BK280.out 1).trans rfl; have hcz130_2 : w127.cell? ⟨gb280, 2, none⟩ = some (.int .i64 0) := (blk_cell BK280.out 2).trans rfl; have hcz130_3 : w127.cell? ⟨gb280, 3, none⟩ = some (.int .i64 0) := (blk_cell BK280.out 3).trans rfl; have hcz130_4 : w127.cell? ⟨gb280, 4, none⟩ = some (.bool false) := (blk_cell BK280.out 4).trans rfl; have hfz130_0 := blk_frozen BK280.out 0; have hfz130_1 := blk_frozen BK280.out 1; have hfz130_2 := blk_frozen BK280.out 2; have hfz130_3 := blk_frozen BK280.out 3; have hfz130_4 := blk_frozen BK280.out 4; have hcz131_0 : w127.cell? ⟨gb269, 0, none⟩ = some (.int .i64 a0_0) := (blk_cell BK269.out 0).trans rfl; have hcz131_1 : w127.cell? ⟨gb269, 1, none⟩ = some (.int .i64 a0_1) := (blk_cell BK269.out 1).trans rfl; have hcz131_2 : w127.cell? ⟨gb269, 2, none⟩ = some (.int .i64 a0_2) := (blk_cell BK269.out 2).trans rfl; have hfz131_0 := blk_frozen BK269.out 0; have hfz131_1 := blk_frozen BK269.out 1; have hfz131_2 := blk_frozen BK269.out 2; have hcz132_0 : w127.cell? ⟨gb270, 0, none⟩ = some (.int .i64 a1_0) := (blk_cell BK270.out 0).trans rfl; have hcz132_1 : w127.cell? ⟨gb270, 1, none⟩ = some (.int .i64 a1_1) := (blk_cell BK270.out 1).trans rfl; have hcz132_2 : w127.cell? ⟨gb270, 2, none⟩ = some (.int .i64 a1_2) := (blk_cell BK270.out 2).trans rfl; have hcz132_3 : w127.cell? ⟨gb270, 3, none⟩ = some (.int .i64 a1_3) := (blk_cell BK270.out 3).trans rfl; have hcz132_4 : w127.cell? ⟨gb270, 4, none⟩ = some (.bool a1_4) := (blk_cell BK270.out 4).trans rfl; have hfz132_0 := blk_frozen BK270.out 0; have hfz132_1 := blk_frozen BK270.out 1; have hfz132_2 := blk_frozen BK270.out 2; have hfz132_3 := blk_frozen BK270.out 3; have hfz132_4 := blk_frozen BK270.out 4) | ((with_reducible refine gate_callee (f := 19) rfl ?_); refine goesL_ (some 35) rfl rfl Tryd.func19 (by kernel_rfl) rfl #[.agg #[.int .i64 a0_0, .int .i64 a0_1, .int .i64 a0_2], .agg #[.int .i64 a1_0, .int .i64 a1_1, .int .i64 a1_2, .int .i64 a1_3, .bool a1_4]] rfl (by (try simp only [List.map_toArray, List.map_cons, List.map_nil]); first | done | rfl | (simp only [List.length_drop, List.length_take]; rfl)) ?_; (with_reducible refine (rto_Expire.calls a0_0 a0_1 a0_2 a1_0 a1_1 a1_2 a1_3 a1_4 t281 t282 t283 t284 t285 _ ?side1 A115.out).mono ?_); (case side1 => exact Tied.below HG.out (by repeat (first | (with_reducible first | exact HB.out | apply below_alloc | apply pw_below_drewN | apply below_drew1 | refine below_set ?_ GE269.out | refine below_set ?_ GE270.out | refine below_set ?_ GE280.out) | exact HB.out))); rintro e w133 ⟨rfl, hb⟩; refine ⟨_, rfl, ?_⟩; have n0_ := Aside0.mk (blk_below (g := gb269) (o := .cells #[.int .i64 a0_0, .int .i64 a0_1, .int .i64 a0_2] 23 (0, 0)) (by (with_reducible repeat (first | refine blk_drewN ?_ _ | refine blk_drew ?_ | refine blk_alloc ?_ _)); refine blk_far ?_ NB269_280.out _; (with_reducible repeat (first | refine blk_drewN ?_ _ | refine blk_drew ?_ | refine blk_alloc ?_ _)); refine blk_far ?_ NB269_280.out _; (with_reducible repeat (first | refine blk_drewN ?_ _ | refine blk_drew ?_ | refine blk_alloc ?_ _)); refine blk_far ?_ NB269_280.out _; (with_reducible repeat (first | refine blk_drewN ?_ _ | refine blk_drew ?_ | refine blk_alloc ?_ _)); refine blk_far ?_ NB269_280.out _; (with_reducible repeat (first | refine blk_drewN ?_ _ | refine blk_drew ?_ | refine blk_alloc ?_ _)); refine blk_far ?_ NB269_280.out _; (with_reducible repeat (first | refine blk_drewN ?_ _ | refine blk_drew ?_ | refine blk_alloc ?_ _)); exact BK269.out) hb); have n1_ := Aside0.mk (blk_below (g := gb270) (o := .cells #[.int .i64 a1_0, .int .i64 a1_1, .int .i64 a1_2, .int .i64 a1_3, .bool a1_4] 26 (0, 0)) (by (with_reducible repeat (first | refine blk_drewN ?_ _ | refine blk_drew ?_ | refine blk_alloc ?_ _)); refine blk_far ?_ NB270_280.out _; (with_reducible repeat (first | refine blk_drewN ?_ _ | refine blk_drew ?_ | refine blk_alloc ?_ _)); refine blk_far ?_ NB270_280.out _; (with_reducible repeat (first | refine blk_drewN ?_ _ | refine blk_drew ?_ | refine blk_alloc ?_ _)); refine blk_far ?_ NB270_280.out _; (with_reducible repeat (first | refine blk_drewN ?_ _ | refine blk_drew ?_ | refine blk_alloc ?_ _)); refine blk_far ?_ NB270_280.out _; (with_reducible repeat (first | refine blk_drewN ?_ _ | refine blk_drew ?_ | refine blk_alloc ?_ _)); refine blk_far ?_ NB270_280.out _; (with_reducible repeat (first | refine blk_drewN ?_ _ | refine blk_drew ?_ | refine blk_alloc ?_ _)); exact BK270.out) hb); have n2_ := Aside0.mk (blk_below (g := gb280) (o := .cells #[.int .i64 t275, .int .i64 t276, .int .i64 t277, .int .i64 t278, .bool t279] 26 (0, 0)) (by (with_reducible repeat (first | refine blk_drewN ?_ _ | refine blk_drew ?_ | refine blk_alloc ?_ _)); refine blk_put (cs := #[.int .i64 t275, .int .i64 t276, .int .i64 t277, .int .i64 t278, .bool false]) ?_ 4 _ rfl; (with_reducible repeat (first | refine blk_drewN ?_ _ | refine blk_drew ?_ | refine blk_alloc ?_ _)); refine blk_put (cs := #[.int .i64 t275, .int .i64 t276, .int .i64 t277, .int .i64 0, .bool false]) ?_ 3 _ rfl; (with_reducible repeat (first | refine blk_drewN ?_ _ | refine blk_drew ?_ | refine blk_alloc ?_ _)); refine blk_put (cs := #[.int .i64 t275, .int .i64 t276, .int .i64 0, .int .i64 0, .bool false]) ?_ 2 _ rfl; (with_reducible repeat (first | refine blk_drewN ?_ _ | refine blk_drew ?_ | refine blk_alloc ?_ _)); refine blk_put (cs := #[.int .i64 t275, .int .i64 0, .int .i64 0, .int .i64 0, .bool false]) ?_ 1 _ rfl; (with_reducible repeat (first | refine blk_drewN ?_ _ | refine blk_drew ?_ | refine blk_alloc ?_ _)); refine blk_put (cs := #[.int .i64 0, .int .i64 0, .int .i64 0, .int .i64 0, .bool false]) ?_ 0 _ rfl; (with_reducible repeat (first | refine blk_drewN ?_ _ | refine blk_drew ?_ | refine blk_alloc ?_ _)); exact BK280.out) hb); have n3_ := Aside0.mk (below_step (by repeat (first | (with_reducible first | exact HB.out | apply below_alloc | apply pw_below_drewN | apply below_drew1 | refine below_set ?_ GE269.out | refine below_set ?_ GE270.out | refine below_set ?_ GE280.out) | exact HB.out)) hb); clear BK269; clear BK270; clear BK280; clear HB; have BK269 := n0_; have BK270 := n1_; have BK280 := n2_; have HB := n3_; clear n0_ n1_ n2_ n3_; (try clear hb); (try clear hb2); (try clear hk); (try clear hi)) | ((with_reducible refine gate_dst (N := 11) rfl ?_); refine box_event ?hg (N := 11) ?hd (cs := #[.int .i64 0, .int .i64 0, .int .i64 0, .int .i64 0, .bool false]) (t := 26) ?hr ?_; (case hd => rfl); (case hg => rfl); (case hr => first | (go_simp; done) | (go_simp; rfl)); intro gb286 hg w134 hbox hb; have n0_ := Aside0.mk (blk_below (g := gb269) (o := .cells #[.int .i64 a0_0, .int .i64 a0_1, .int .i64 a0_2] 23 (0, 0)) (by (with_reducible repeat (first | refine blk_drewN ?_ _ | refine blk_drew ?_ | refine blk_alloc ?_ _)); exact BK269.out) hb); have n1_ := Aside0.mk (blk_below (g := gb270) (o := .cells #[.int .i64 a1_0, .int .i64 a1_1, .int .i64 a1_2, .int .i64 a1_3, .bool a1_4] 26 (0, 0)) (by (with_reducible repeat (first | refine blk_drewN ?_ _ | refine blk_drew ?_ | refine blk_alloc ?_ _)); exact BK270.out) hb); have n2_ := Aside0.mk (blk_below (g := gb280) (o := .cells #[.int .i64 t275, .int .i64 t276, .int .i64 t277, .int .i64 t278, .bool t279] 26 (0, 0)) (by (with_reducible repeat (first | refine blk_drewN ?_ _ | refine blk_drew ?_ | refine blk_alloc ?_ _)); exact BK280.out) hb); have n3_ := Aside0.mk (below_step (by repeat (first | (with_reducible first | exact HB.out | apply below_alloc | apply pw_below_drewN | apply below_drew1 | refine below_set ?_ GE269.out | refine below_set ?_ GE270.out | refine below_set ?_ GE280.out) | exact HB.out)) hb); have n4_ := Aside0.mk (hbox); have n5_ := Aside0.mk ((by rw [hg]; exact (below_size (by repeat (first | (with_reducible first | exact HB.out | apply below_alloc | apply pw_below_drewN | apply below_drew1 | refine below_set ?_ GE269.out | refine below_set ?_ GE270.out | refine below_set ?_ GE280.out) | exact HB.out))) : w.heap.size ≤ gb286)); have n6_ := Aside0.mk ((by rw [hg]; exact (below_size (by repeat (first | (with_reducible first | exact HB.out | apply below_alloc | apply pw_below_drewN | apply below_drew1 | refine below_set ?_ GE269.out | refine below_set ?_ GE270.out | refine below_set ?_ GE280.out) | exact HB.out))) : w.heap.size ≤ gb286)); have n7_ := Aside0.mk ((by rw [hg]; exact Nat.ne_of_lt (blk_lt (g := gb269) (o := .cells #[.int .i64 a0_0, .int .i64 a0_1, .int .i64 a0_2] 23 (0, 0)) (by (with_reducible repeat (first | refine blk_drewN ?_ _ | refine blk_drew ?_ | refine blk_alloc ?_ _)); exact BK269.out)) : gb269 ≠ gb286)); have n8_ := Aside0.mk ((by rw [hg]; exact Nat.ne_of_gt (blk_lt (g := gb269) (o := .cells #[.int .i64 a0_0, .int .i64 a0_1, .int .i64 a0_2] 23 (0, 0)) (by (with_reducible repeat (first | refine blk_drewN ?_ _ | refine blk_drew ?_ | refine blk_alloc ?_ _)); exact BK269.out)) : gb286 ≠ gb269)); have n9_ := Aside0.mk ((by rw [hg]; exact Nat.ne_of_lt (blk_lt (g := gb270) (o := .cells #[.int .i64 a1_0, .int .i64 a1_1, .int .i64 a1_2, .int .i64 a1_3, .bool a1_4] 26 (0, 0)) (by (with_reducible repeat (first | refine blk_drewN ?_ _ | refine blk_drew ?_ | refine blk_alloc ?_ _)); exact BK270.out)) : gb270 ≠ gb286)); have n10_ := Aside0.mk ((by rw [hg]; exact Nat.ne_of_gt (blk_lt (g := gb270) (o := .cells #[.int .i64 a1_0, .int .i64 a1_1, .int .i64 a1_2, .int .i64 a1_3, .bool a1_4] 26 (0, 0)) (by (with_reducible repeat (first | refine blk_drewN ?_ _ | refine blk_drew ?_ | refine blk_alloc ?_ _)); exact BK270.out)) : gb286 ≠ gb270)); have n11_ := Aside0.mk ((by rw [hg]; exact Nat.ne_of_lt (blk_lt (g := gb280) (o := .cells #[.int .i64 t275, .int .i64 t276, .int .i64 t277, .int .i64 t278, .bool t279] 26 (0, 0)) (by (with_reducible repeat (first | refine blk_drewN ?_ _ | refine blk_drew ?_ | refine blk_alloc ?_ _)); exact BK280.out)) : gb280 ≠ gb286)); have n12_ := Aside0.mk ((by rw [hg]; exact Nat.ne_of_gt (blk_lt (g := gb280) (o := .cells #[.int .i64 t275, .int .i64 t276, .int .i64 t277, .int .i64 t278, .bool t279] 26 (0, 0)) (by (with_reducible repeat (first | refine blk_drewN ?_ _ | refine blk_drew ?_ | refine blk_alloc ?_ _)); exact BK280.out)) : gb286 ≠ gb280)); clear BK269; clear BK270; clear BK280; clear HB; have BK269 := n0_; have BK270 := n1_; have BK280 := n2_; have HB := n3_; have BK286 := n4_; have GW286 := n5_; have GE286 := n6_; have NB269_286 := n7_; have NB286_269 := n8_; have NB270_286 := n9_; have NB286_270 := n10_; have NB280_286 := n11_; have NB286_280 := n12_; clear n0_ n1_ n2_ n3_ n4_ n5_ n6_ n7_ n8_ n9_ n10_ n11_ n12_; clear hb hbox hg; have hnb135 := NB286_269.out; have hnc135 := NB269_286.out; have hnb136 := NB286_270.out; have hnc136 := NB270_286.out; have hnb137 := NB286_280.out; have hnc137 := NB280_286.out; have hcz138_0 : w134.cell? ⟨gb286, 0, none⟩ = some (.int .i64 0) := (blk_cell BK286.out 0).trans rfl; have hcz138_1 : w134.cell? ⟨gb286, 1, none⟩ = some (.int .i64 0) := (blk_cell BK286.out 1).trans rfl; have hcz138_2 : w134.cell? ⟨gb286, 2, none⟩ = some (.int .i64 0) := (blk_cell BK286.out 2).trans rfl; have hcz138_3 : w134.cell? ⟨gb286, 3, none⟩ = some (.int .i64 0) := (blk_cell BK286.out 3).trans rfl; have hcz138_4 : w134.cell? ⟨gb286, 4, none⟩ = some (.bool false) := (blk_cell BK286.out 4).trans rfl; have hfz138_0 := blk_frozen BK286.out 0; have hfz138_1 := blk_frozen BK286.out 1; have hfz138_2 := blk_frozen BK286.out 2; have hfz138_3 := blk_frozen BK286.out 3; have hfz138_4 := blk_frozen BK286.out 4; have hcz139_0 : w134.cell? ⟨gb280, 0, none⟩ = some (.int .i64 t275) := (blk_cell BK280.out 0).trans rfl; have hcz139_1 : w134.cell? ⟨gb280, 1, none⟩ = some (.int .i64 t276) := (blk_cell BK280.out 1).trans rfl; have hcz139_2 : w134.cell? ⟨gb280, 2, none⟩ = some (.int .i64 t277) := (blk_cell BK280.out 2).trans rfl; have hcz139_3 : w134.cell? ⟨gb280, 3, none⟩ = some (.int .i64 t278) := (blk_cell BK280.out 3).trans rfl; have hcz139_4 : w134.cell? ⟨gb280, 4, none⟩ = some (.bool t279) := (blk_cell BK280.out 4).trans rfl; have hfz139_0 := blk_frozen BK280.out 0; have hfz139_1 := blk_frozen BK280.out 1; have hfz139_2 := blk_frozen BK280.out 2; have hfz139_3 := blk_frozen BK280.out 3; have hfz139_4 := blk_frozen BK280.out 4) | ((with_reducible refine gate_callee (f := 15) rfl ?_); refine goesL_ (some 38) rfl rfl Tryd.func15 (by kernel_rfl) rfl #[.agg #[.int .i64 t275, .int .i64 t276, .int .i64 t277, .int .i64 t278, .bool t279], .agg #[.int .i64 0, .int .i64 0, .int .i64 0, .int .i64 0, .bool false]] rfl (by (try simp only [List.map_toArray, List.map_cons, List.map_nil]); first | done | rfl | (simp only [List.length_drop, List.length_take]; rfl)) ?_; (with_reducible refine (annexref_SameEst.calls t275 t276 t277 t278 t279 0 0 0 0 false true _ A116.out).mono ?_); rintro e w140 ⟨rfl, hb⟩; refine ⟨_, rfl, ?_⟩; have n0_ := Aside0.mk (blk_below (g := gb269) (o := .cells #[.int .i64 a0_0, .int .i64 a0_1, .int .i64 a0_2] 23 (0, 0)) (by (with_reducible repeat (first | refine blk_drewN ?_ _ | refine blk_drew ?_ | refine blk_alloc ?_ _)); refine blk_far ?_ NB269_286.out _; (with_reducible repeat (first | refine blk_drewN ?_ _ | refine blk_drew ?_ | refine blk_alloc ?_ _)); refine blk_far ?_ NB269_286.out _; (with_reducible repeat (first | refine blk_drewN ?_ _ | refine blk_drew ?_ | refine blk_alloc ?_ _)); refine blk_far ?_ NB269_286.out _; (with_reducible repeat (first | refine blk_drewN ?_ _ | refine blk_drew ?_ | refine blk_alloc ?_ _)); refine blk_far ?_ NB269_286.out _; (with_reducible repeat (first | refine blk_drewN ?_ _ | refine blk_drew ?_ | refine blk_alloc ?_ _)); refine blk_far ?_ NB269_286.out _; (with_reducible repeat (first | refine blk_drewN ?_ _ | refine blk_drew ?_ | refine blk_alloc ?_ _)); exact BK269.out) hb); have n1_ := Aside0.mk (blk_below (g := gb270) (o := .cells #[.int .i64 a1_0, .int .i64 a1_1, .int .i64 a1_2, .int .i64 a1_3, .bool a1_4] 26 (0, 0)) (by (with_reducible repeat (first | refine blk_drewN ?_ _ | refine blk_drew ?_ | refine blk_alloc ?_ _)); refine blk_far ?_ NB270_286.out _; (with_reducible repeat (first | refine blk_drewN ?_ _ | refine blk_drew ?_ | refine blk_alloc ?_ _)); refine blk_far ?_ NB270_286.out _; (with_reducible repeat (first | refine blk_drewN ?_ _ | refine blk_drew ?_ | refine blk_alloc ?_ _)); refine blk_far ?_ NB270_286.out _; (with_reducible repeat (first | refine blk_drewN ?_ _ | refine blk_drew ?_ | refine blk_alloc ?_ _)); refine blk_far ?_ NB270_286.out _; (with_reducible repeat (first | refine blk_drewN ?_ _ | refine blk_drew ?_ | refine blk_alloc ?_ _)); refine blk_far ?_ NB270_286.out _; (with_reducible repeat (first | refine blk_drewN ?_ _ | refine blk_drew ?_ | refine blk_alloc ?_ _)); exact BK270.out) hb); have n2_ := Aside0.mk (blk_below (g := gb280) (o := .cells #[.int .i64 t275, .int .i64 t276, .int .i64 t277, .int .i64 t278, .bool t279] 26 (0, 0)) (by (with_reducible repeat (first | refine blk_drewN ?_ _ | refine blk_drew ?_ | refine blk_alloc ?_ _)); refine blk_far ?_ NB280_286.out _; (with_reducible repeat (first | refine blk_drewN ?_ _ | refine blk_drew ?_ | refine blk_alloc ?_ _)); refine blk_far ?_ NB280_286.out _; (with_reducible repeat (first | refine blk_drewN ?_ _ | refine blk_drew ?_ | refine blk_alloc ?_ _)); refine blk_far ?_ NB280_286.out _; (with_reducible repeat (first | refine blk_drewN ?_ _ | refine blk_drew ?_ | refine blk_alloc ?_ _)); refine blk_far ?_ NB280_286.out _; (with_reducible repeat (first | refine blk_drewN ?_ _ | refine blk_drew ?_ | refine blk_alloc ?_ _)); refine blk_far ?_ NB280_286.out _; (with_reducible repeat (first | refine blk_drewN ?_ _ | refine blk_drew ?_ | refine blk_alloc ?_ _)); exact BK280.out) hb); have n3_ := Aside0.mk (blk_below (g := gb286) (o := .cells #[.int .i64 t281, .int .i64 t282, .int .i64 t283, .int .i64 t284, .bool t285] 26 (0, 0)) (by (with_reducible repeat (first | refine blk_drewN ?_ _ | refine blk_drew ?_ | refine blk_alloc ?_ _)); refine blk_put (cs := #[.int .i64 t281, .int .i64 t282, .int .i64 t283, .int .i64 t284, .bool false]) ?_ 4 _ rfl; (with_reducible repeat (first | refine blk_drewN ?_ _ | refine blk_drew ?_ | refine blk_alloc ?_ _)); refine blk_put (cs := #[.int .i64 t281, .int .i64 t282, .int .i64 t283, .int .i64 0, .bool false]) ?_ 3 _ rfl; (with_reducible repeat (first | refine blk_drewN ?_ _ | refine blk_drew ?_ | refine blk_alloc ?_ _)); refine blk_put (cs := #[.int .i64 t281, .int .i64 t282, .int .i64 0, .int .i64 0, .bool false]) ?_ 2 _ rfl; (with_reducible repeat (first | refine blk_drewN ?_ _ | refine blk_drew ?_ | refine blk_alloc ?_ _)); refine blk_put (cs := #[.int .i64 t281, .int .i64 0, .int .i64 0, .int .i64 0, .bool false]) ?_ 1 _ rfl; (with_reducible repeat (first | refine blk_drewN ?_ _ | refine blk_drew ?_ | refine blk_alloc ?_ _)); refine blk_put (cs := #[.int .i64 0, .int .i64 0, .int .i64 0, .int .i64 0, .bool false]) ?_ 0 _ rfl; (with_reducible repeat (first | refine blk_drewN ?_ _ | refine blk_drew ?_ | refine blk_alloc ?_ _)); exact BK286.out) hb); have n4_ := Aside0.mk (below_step (by repeat (first | (with_reducible first | exact HB.out | apply below_alloc | apply pw_below_drewN | apply below_drew1 | refine below_set ?_ GE269.out | refine below_set ?_ GE270.out | refine below_set ?_ GE280.out | refine below_set ?_ GE286.out) | exact HB.out)) hb); clear BK269; clear BK270; clear BK280; clear BK286; clear HB; have BK269 := n0_; have BK270 := n1_; have BK280 := n2_; have BK286 := n3_; have HB := n4_; clear n0_ n1_ n2_ n3_ n4_; (try clear hb); (try clear hb2); (try clear hk); (try clear hi); have hcz141_0 : w140.cell? ⟨gb286, 0, none⟩ = some (.int .i64 t281) := (blk_cell BK286.out 0).trans rfl; have hcz141_1 : w140.cell? ⟨gb286, 1, none⟩ = some (.int .i64 t282) := (blk_cell BK286.out 1).trans rfl; have hcz141_2 : w140.cell? ⟨gb286, 2, none⟩ = some (.int .i64 t283) := (blk_cell BK286.out 2).trans rfl; have hcz141_3 : w140.cell? ⟨gb286, 3, none⟩ = some (.int .i64 t284) := (blk_cell BK286.out 3).trans rfl; have hcz141_4 : w140.cell? ⟨gb286, 4, none⟩ = some (.bool t285) := (blk_cell BK286.out 4).trans rfl; have hfz141_0 := blk_frozen BK286.out 0; have hfz141_1 := blk_frozen BK286.out 1; have hfz141_2 := blk_frozen BK286.out 2; have hfz141_3 := blk_frozen BK286.out 3; have hfz141_4 := blk_frozen BK286.out 4) | ((with_reducible refine gate_callee (f := 15) rfl ?_); refine goesL_ (some 41) rfl rfl Tryd.func15 (by kernel_rfl) rfl #[.agg #[.int .i64 t281, .int .i64 t282, .int .i64 t283, .int .i64 t284, .bool t285], .agg #[.int .i64 0, .int .i64 0, .int .i64 0, .int .i64 0, .bool false]] rfl (by (try simp only [List.map_toArray, List.map_cons, List.map_nil]); first | done | rfl | (simp only [List.length_drop, List.length_take]; rfl)) ?_; (with_reducible refine (annexref_SameEst.calls t281 t282 t283 t284 t285 0 0 0 0 false true _ A117.out).mono ?_); rintro e w142 ⟨rfl, hb⟩; refine ⟨_, rfl, ?_⟩; have n0_ := Aside0.mk (blk_below (g := gb269) (o := .cells #[.int .i64 a0_0, .int .i64 a0_1, .int .i64 a0_2] 23 (0, 0)) (by (with_reducible repeat (first | refine blk_drewN ?_ _ | refine blk_drew ?_ | refine blk_alloc ?_ _)); exact BK269.out) hb); have n1_ := Aside0.mk (blk_below (g := gb270) (o := .cells #[.int .i64 a1_0, .int .i64 a1_1, .int .i64 a1_2, .int .i64 a1_3, .bool a1_4] 26 (0, 0)) (by (with_reducible repeat (first | refine blk_drewN ?_ _ | refine blk_drew ?_ | refine blk_alloc ?_ _)); exact BK270.out) hb); have n2_ := Aside0.mk (blk_below (g := gb280) (o := .cells #[.int .i64 t275, .int .i64 t276, .int .i64 t277, .int .i64 t278, .bool t279] 26 (0, 0)) (by (with_reducible repeat (first | refine blk_drewN ?_ _ | refine blk_drew ?_ | refine blk_alloc ?_ _)); exact BK280.out) hb); have n3_ := Aside0.mk (blk_below (g := gb286) (o := .cells #[.int .i64 t281, .int .i64 t282, .int .i64 t283, .int .i64 t284, .bool t285] 26 (0, 0)) (by (with_reducible repeat (first | refine blk_drewN ?_ _ | refine blk_drew ?_ | refine blk_alloc ?_ _)); exact BK286.out) hb); have n4_ := Aside0.mk (below_step (by repeat (first | (with_reducible first | exact HB.out | apply below_alloc | apply pw_below_drewN | apply below_drew1 | refine below_set ?_ GE269.out | refine below_set ?_ GE270.out | refine below_set ?_ GE280.out | refine below_set ?_ GE286.out) | exact HB.out)) hb); clear BK269; clear BK270; clear BK280; clear BK286; clear HB; have BK269 := n0_; have BK270 := n1_; have BK280 := n2_; have BK286 := n3_; have HB := n4_; clear n0_ n1_ n2_ n3_ n4_; (try clear hb); (try clear hb2); (try clear hk); (try clear hi)))
              go_ret
              exact ⟨by first | rfl | (simp [errW_none, errW_some] <;> rfl) | (simp [*, errW_none, errW_some] <;> rfl), by repeat (first | (with_reducible first | exact HB.out | apply below_alloc | apply pw_below_drewN | apply below_drew1 | refine below_set ?_ GE269.out | refine below_set ?_ GE270.out | refine below_set ?_ GE280.out | refine below_set ?_ GE286.out) | exact HB.out)⟩
            · replace c119 := Bool.eq_false_iff.mpr c119
              subst c119
              have H1 : (some false) = some r := by rw [if_neg (show ¬ (false = true) by decide)] at H; exact H
              clear H
              have H := H1
              clear H1
              obtain rfl := Option.some.inj H
              have hnb143 := NB269_270.out
              have hnc143 := NB270_269.out
              have hcz144_0 : wc.cell? ⟨gb269, 0, none⟩ = some (.int .i64 a0_0) := (blk_cell BK269.out 0).trans rfl
              have hcz144_1 : wc.cell? ⟨gb269, 1, none⟩ = some (.int .i64 a0_1) := (blk_cell BK269.out 1).trans rfl
              have hcz144_2 : wc.cell? ⟨gb269, 2, none⟩ = some (.int .i64 a0_2) := (blk_cell BK269.out 2).trans rfl
              have hfz144_0 := blk_frozen BK269.out 0
              have hfz144_1 := blk_frozen BK269.out 1
              have hfz144_2 := blk_frozen BK269.out 2
              have hcz145_0 : wc.cell? ⟨gb270, 0, none⟩ = some (.int .i64 a1_0) := (blk_cell BK270.out 0).trans rfl
              have hcz145_1 : wc.cell? ⟨gb270, 1, none⟩ = some (.int .i64 a1_1) := (blk_cell BK270.out 1).trans rfl
              have hcz145_2 : wc.cell? ⟨gb270, 2, none⟩ = some (.int .i64 a1_2) := (blk_cell BK270.out 2).trans rfl
              have hcz145_3 : wc.cell? ⟨gb270, 3, none⟩ = some (.int .i64 a1_3) := (blk_cell BK270.out 3).trans rfl
              have hcz145_4 : wc.cell? ⟨gb270, 4, none⟩ = some (.bool a1_4) := (blk_cell BK270.out 4).trans rfl
              have hfz145_0 := blk_frozen BK270.out 0
              have hfz145_1 := blk_frozen BK270.out 1
              have hfz145_2 := blk_frozen BK270.out 2
              have hfz145_3 := blk_frozen BK270.out 3
              have hfz145_4 := blk_frozen BK270.out 4
              go_wp2_with (first | ((with_reducible refine gate_callee (f := 21) rfl ?_); refine goesL_ (some 27) rfl rfl Tryd.func21 (by kernel_rfl) rfl #[.agg #[.int .i64 a0_0, .int .i64 a0_1, .int .i64 a0_2], .agg #[.int .i64 a1_0, .int .i64 a1_1, .int .i64 a1_2, .int .i64 a1_3, .bool a1_4]] rfl (by (try simp only [List.map_toArray, List.map_cons, List.map_nil]); first | done | rfl | (simp only [List.length_drop, List.length_take]; rfl)) ?_; (with_reducible refine (rto_Wait.calls a0_0 a0_1 a0_2 a1_0 a1_1 a1_2 a1_3 a1_4 t274 _ ?side1 A22.out).mono ?_); (case side1 => exact Tied.below HG.out (by repeat (first | (with_reducible first | exact HB.out | apply below_alloc | apply pw_below_drewN | apply below_drew1 | refine below_set ?_ GE269.out | refine below_set ?_ GE270.out) | exact HB.out))); rintro e w146 ⟨rfl, hb⟩; refine ⟨_, rfl, ?_⟩; have n0_ := Aside0.mk (blk_below (g := gb269) (o := .cells #[.int .i64 a0_0, .int .i64 a0_1, .int .i64 a0_2] 23 (0, 0)) (by (with_reducible repeat (first | refine blk_drewN ?_ _ | refine blk_drew ?_ | refine blk_alloc ?_ _)); exact BK269.out) hb); have n1_ := Aside0.mk (blk_below (g := gb270) (o := .cells #[.int .i64 a1_0, .int .i64 a1_1, .int .i64 a1_2, .int .i64 a1_3, .bool a1_4] 26 (0, 0)) (by (with_reducible repeat (first | refine blk_drewN ?_ _ | refine blk_drew ?_ | refine blk_alloc ?_ _)); exact BK270.out) hb); have n2_ := Aside0.mk (below_step (by repeat (first | (with_reducible first | exact HB.out | apply below_alloc | apply pw_below_drewN | apply below_drew1 | refine below_set ?_ GE269.out | refine below_set ?_ GE270.out) | exact HB.out)) hb); clear BK269; clear BK270; clear HB; have BK269 := n0_; have BK270 := n1_; have HB := n2_; clear n0_ n1_ n2_; (try clear hb); (try clear hb2); (try clear hk); (try clear hi); have hcz147_0 : w146.cell? ⟨gb269, 0, none⟩ = some (.int .i64 a0_0) := (blk_cell BK269.out 0).trans rfl; have hcz147_1 : w146.cell? ⟨gb269, 1, none⟩ = some (.int .i64 a0_1) := (blk_cell BK269.out 1).trans rfl; have hcz147_2 : w146.cell? ⟨gb269, 2, none⟩ = some (.int .i64 a0_2) := (blk_cell BK269.out 2).trans rfl; have hfz147_0 := blk_frozen BK269.out 0; have hfz147_1 := blk_frozen BK269.out 1; have hfz147_2 := blk_frozen BK269.out 2; have hcz148_0 : w146.cell? ⟨gb270, 0, none⟩ = some (.int .i64 a1_0) := (blk_cell BK270.out 0).trans rfl; have hcz148_1 : w146.cell? ⟨gb270, 1, none⟩ = some (.int .i64 a1_1) := (blk_cell BK270.out 1).trans rfl; have hcz148_2 : w146.cell? ⟨gb270, 2, none⟩ = some (.int .i64 a1_2) := (blk_cell BK270.out 2).trans rfl; have hcz148_3 : w146.cell? ⟨gb270, 3, none⟩ = some (.int .i64 a1_3) := (blk_cell BK270.out 3).trans rfl; have hcz148_4 : w146.cell? ⟨gb270, 4, none⟩ = some (.bool a1_4) := (blk_cell BK270.out 4).trans rfl; have hfz148_0 := blk_frozen BK270.out 0; have hfz148_1 := blk_frozen BK270.out 1; have hfz148_2 := blk_frozen BK270.out 2; have hfz148_3 := blk_frozen BK270.out 3; have hfz148_4 := blk_frozen BK270.out 4) | ((with_reducible refine gate_callee (f := 17) rfl ?_); refine goesL_ (some 32) rfl rfl Tryd.func17 (by kernel_rfl) rfl #[.agg #[.int .i64 a0_0, .int .i64 a0_1, .int .i64 a0_2], .agg #[.int .i64 a1_0, .int .i64 a1_1, .int .i64 a1_2, .int .i64 a1_3, .bool a1_4], .int .i64 7] rfl (by (try simp only [List.map_toArray, List.map_cons, List.map_nil]); first | done | rfl | (simp only [List.length_drop, List.length_take]; rfl)) ?_; (with_reducible refine (rto_Sample.calls a0_0 a0_1 a0_2 a1_0 a1_1 a1_2 a1_3 a1_4 7 t275 t276 t277 t278 t279 _ ?side1 A114.out).mono ?_); (case side1 => exact Tied.below HG.out (by repeat (first | (with_reducible first | exact HB.out | apply below_alloc | apply pw_below_drewN | apply below_drew1 | refine below_set ?_ GE269.out | refine below_set ?_ GE270.out) | exact HB.out))); rintro e w149 ⟨rfl, hb⟩; refine ⟨_, rfl, ?_⟩; have n0_ := Aside0.mk (blk_below (g := gb269) (o := .cells #[.int .i64 a0_0, .int .i64 a0_1, .int .i64 a0_2] 23 (0, 0)) (by (with_reducible repeat (first | refine blk_drewN ?_ _ | refine blk_drew ?_ | refine blk_alloc ?_ _)); exact BK269.out) hb); have n1_ := Aside0.mk (blk_below (g := gb270) (o := .cells #[.int .i64 a1_0, .int .i64 a1_1, .int .i64 a1_2, .int .i64 a1_3, .bool a1_4] 26 (0, 0)) (by (with_reducible repeat (first | refine blk_drewN ?_ _ | refine blk_drew ?_ | refine blk_alloc ?_ _)); exact BK270.out) hb); have n2_ := Aside0.mk (below_step (by repeat (first | (with_reducible first | exact HB.out | apply below_alloc | apply pw_below_drewN | apply below_drew1 | refine below_set ?_ GE269.out | refine below_set ?_ GE270.out) | exact HB.out)) hb); clear BK269; clear BK270; clear HB; have BK269 := n0_; have BK270 := n1_; have HB := n2_; clear n0_ n1_ n2_; (try clear hb); (try clear hb2); (try clear hk); (try clear hi)) | ((with_reducible refine gate_dst (N := 10) rfl ?_); refine box_event ?hg (N := 10) ?hd (cs := #[.int .i64 0, .int .i64 0, .int .i64 0, .int .i64 0, .bool false]) (t := 26) ?hr ?_; (case hd => rfl); (case hg => rfl); (case hr => first | (go_simp; done) | (go_simp; rfl)); intro gb280 hg w150 hbox hb; have n0_ := Aside0.mk (blk_below (g := gb269) (o := .cells #[.int .i64 a0_0, .int .i64 a0_1, .int .i64 a0_2] 23 (0, 0)) (by (with_reducible repeat (first | refine blk_drewN ?_ _ | refine blk_drew ?_ | refine blk_alloc ?_ _)); exact BK269.out) hb); have n1_ := Aside0.mk (blk_below (g := gb270) (o := .cells #[.int .i64 a1_0, .int .i64 a1_1, .int .i64 a1_2, .int .i64 a1_3, .bool a1_4] 26 (0, 0)) (by (with_reducible repeat (first | refine blk_drewN ?_ _ | refine blk_drew ?_ | refine blk_alloc ?_ _)); exact BK270.out) hb); have n2_ := Aside0.mk (below_step (by repeat (first | (with_reducible first | exact HB.out | apply below_alloc | apply pw_below_drewN | apply below_drew1 | refine below_set ?_ GE269.out | refine below_set ?_ GE270.out) | exact HB.out)) hb); have n3_ := Aside0.mk (hbox); have n4_ := Aside0.mk ((by rw [hg]; exact (below_size (by repeat (first | (with_reducible first | exact HB.out | apply below_alloc | apply pw_below_drewN | apply below_drew1 | refine below_set ?_ GE269.out | refine below_set ?_ GE270.out) | exact HB.out))) : w.heap.size ≤ gb280)); have n5_ := Aside0.mk ((by rw [hg]; exact (below_size (by repeat (first | (with_reducible first | exact HB.out | apply below_alloc | apply pw_below_drewN | apply below_drew1 | refine below_set ?_ GE269.out | refine below_set ?_ GE270.out) | exact HB.out))) : w.heap.size ≤ gb280)); have n6_ := Aside0.mk ((by rw [hg]; exact Nat.ne_of_lt (blk_lt (g := gb269) (o := .cells #[.int .i64 a0_0, .int .i64 a0_1, .int .i64 a0_2] 23 (0, 0)) (by (with_reducible repeat (first | refine blk_drewN ?_ _ | refine blk_drew ?_ | refine blk_alloc ?_ _)); exact BK269.out)) : gb269 ≠ gb280)); have n7_ := Aside0.mk ((by rw [hg]; exact Nat.ne_of_gt (blk_lt (g := gb269) (o := .cells #[.int .i64 a0_0, .int .i64 a0_1, .int .i64 a0_2] 23 (0, 0)) (by (with_reducible repeat (first | refine blk_drewN ?_ _ | refine blk_drew ?_ | refine blk_alloc ?_ _)); exact BK269.out)) : gb280 ≠ gb269)); have n8_ := Aside0.mk ((by rw [hg]; exact Nat.ne_of_lt (blk_lt (g := gb270) (o := .cells #[.int .i64 a1_0, .int .i64 a1_1, .int .i64 a1_2, .int .i64 a1_3, .bool a1_4] 26 (0, 0)) (by (with_reducible repeat (first | refine blk_drewN ?_ _ | refine blk_drew ?_ | refine blk_alloc ?_ _)); exact BK270.out)) : gb270 ≠ gb280)); have n9_ := Aside0.mk ((by rw [hg]; exact Nat.ne_of_gt (blk_lt (g := gb270) (o := .cells #[.int .i64 a1_0, .int .i64 a1_1, .int .i64 a1_2, .int .i64 a1_3, .bool a1_4] 26 (0, 0)) (by (with_reducible repeat (first | refine blk_drewN ?_ _ | refine blk_drew ?_ | refine blk_alloc ?_ _)); exact BK270.out)) : gb280 ≠ gb270)); clear BK269; clear BK270; clear HB; have BK269 := n0_; have BK270 := n1_; have HB := n2_; have BK280 := n3_; have GW280 := n4_; have GE280 := n5_; have NB269_280 := n6_; have NB280_269 := n7_; have NB270_280 := n8_; have NB280_270 := n9_; clear n0_ n1_ n2_ n3_ n4_ n5_ n6_ n7_ n8_ n9_; clear hb hbox hg; have hnb151 := NB280_269.out; have hnc151 := NB269_280.out; have hnb152 := NB280_270.out; have hnc152 := NB270_280.out; have hcz153_0 : w150.cell? ⟨gb280, 0, none⟩ = some (.int .i64 0) := (blk_cell BK280.out 0).trans rfl; have hcz153_1 : w150.cell? ⟨gb280, 1, none⟩ = some (.int .i64 0) := (blk_cell BK280.out 1).trans rfl; have hcz153_2 : w150.cell? ⟨gb280, 2, none⟩ = some (.int .i64 0) := (blk_cell BK280.out 2).trans rfl; have hcz153_3 : w150.cell? ⟨gb280, 3, none⟩ = some (.int .i64 0) := (blk_cell BK280.out 3).trans rfl; have hcz153_4 : w150.cell? ⟨gb280, 4, none⟩ = some (.bool false) := (blk_cell BK280.out 4).trans rfl; have hfz153_0 := blk_frozen BK280.out 0; have hfz153_1 := blk_frozen BK280.out 1; have hfz153_2 := blk_frozen BK280.out 2; have hfz153_3 := blk_frozen BK280.out 3; have hfz153_4 := blk_frozen BK280.out 4; have hcz154_0 : w150.cell? ⟨gb269, 0, none⟩ = some (.int .i64 a0_0) := (blk_cell BK269.out 0).trans rfl; have hcz154_1 : w150.cell? ⟨gb269, 1, none⟩ = some (.int .i64 a0_1) := (blk_cell BK269.out 1).trans rfl; have hcz154_2 : w150.cell? ⟨gb269, 2, none⟩ = some (.int .i64 a0_2) := (blk_cell BK269.out 2).trans rfl; have hfz154_0 := blk_frozen BK269.out 0; have hfz154_1 := blk_frozen BK269.out 1; have hfz154_2 := blk_frozen BK269.out 2; have hcz155_0 : w150.cell? ⟨gb270, 0, none⟩ = some (.int .i64 a1_0) := (blk_cell BK270.out 0).trans rfl; have hcz155_1 : w150.cell? ⟨gb270, 1, none⟩ = some (.int .i64 a1_1) := (blk_cell BK270.out 1).trans rfl; have hcz155_2 : w150.cell? ⟨gb270, 2, none⟩ = some (.int .i64 a1_2) := (blk_cell BK270.out 2).trans rfl; have hcz155_3 : w150.cell? ⟨gb270, 3, none⟩ = some (.int .i64 a1_3) := (blk_cell BK270.out 3).trans rfl; have hcz155_4 : w150.cell? ⟨gb270, 4, none⟩ = some (.bool a1_4) := (blk_cell BK270.out 4).trans rfl; have hfz155_0 := blk_frozen BK270.out 0; have hfz155_1 := blk_frozen BK270.out 1; have hfz155_2 := blk_frozen BK270.out 2; have hfz155_3 := blk_frozen BK270.out 3; have hfz155_4 := blk_frozen BK270.out 4) | ((with_reducible refine gate_callee (f := 19) rfl ?_); refine goesL_ (some 35) rfl rfl Tryd.func19 (by kernel_rfl) rfl #[.agg #[.int .i64 a0_0, .int .i64 a0_1, .int .i64 a0_2], .agg #[.int .i64 a1_0, .int .i64 a1_1, .int .i64 a1_2, .int .i64 a1_3, .bool a1_4]] rfl (by (try simp only [List.map_toArray, List.map_cons, List.map_nil]); first | done | rfl | (simp only [List.length_drop, List.length_take]; rfl)) ?_; (with_reducible refine (rto_Expire.calls a0_0 a0_1 a0_2 a1_0 a1_1 a1_2 a1_3 a1_4 t281 t282 t283 t284 t285 _ ?side1 A115.out).mono ?_); (case side1 => exact Tied.below HG.out (by repeat (first | (with_reducible first | exact HB.out | apply below_alloc | apply pw_below_drewN | apply below_drew1 | refine below_set ?_ GE269.out | refine below_set ?_ GE270.out | refine below_set ?_ GE280.out) | exact HB.out))); rintro e w156 ⟨rfl, hb⟩; refine ⟨_, rfl, ?_⟩; have n0_ := Aside0.mk (blk_below (g := gb269) (o := .cells #[.int .i64 a0_0, .int .i64 a0_1, .int .i64 a0_2] 23 (0, 0)) (by (with_reducible repeat (first | refine blk_drewN ?_ _ | refine blk_drew ?_ | refine blk_alloc ?_ _)); refine blk_far ?_ NB269_280.out _; (with_reducible repeat (first | refine blk_drewN ?_ _ | refine blk_drew ?_ | refine blk_alloc ?_ _)); refine blk_far ?_ NB269_280.out _; (with_reducible repeat (first | refine blk_drewN ?_ _ | refine blk_drew ?_ | refine blk_alloc ?_ _)); refine blk_far ?_ NB269_280.out _; (with_reducible repeat (first | refine blk_drewN ?_ _ | refine blk_drew ?_ | refine blk_alloc ?_ _)); refine blk_far ?_ NB269_280.out _; (with_reducible repeat (first | refine blk_drewN ?_ _ | refine blk_drew ?_ | refine blk_alloc ?_ _)); refine blk_far ?_ NB269_280.out _; (with_reducible repeat (first | refine blk_drewN ?_ _ | refine blk_drew ?_ | refine blk_alloc ?_ _)); exact BK269.out) hb); have n1_ := Aside0.mk (blk_below (g := gb270) (o := .cells #[.int .i64 a1_0, .int .i64 a1_1, .int .i64 a1_2, .int .i64 a1_3, .bool a1_4] 26 (0, 0)) (by (with_reducible repeat (first | refine blk_drewN ?_ _ | refine blk_drew ?_ | refine blk_alloc ?_ _)); refine blk_far ?_ NB270_280.out _; (with_reducible repeat (first | refine blk_drewN ?_ _ | refine blk_drew ?_ | refine blk_alloc ?_ _)); refine blk_far ?_ NB270_280.out _; (with_reducible repeat (first | refine blk_drewN ?_ _ | refine blk_drew ?_ | refine blk_alloc ?_ _)); refine blk_far ?_ NB270_280.out _; (with_reducible repeat (first | refine blk_drewN ?_ _ | refine blk_drew ?_ | refine blk_alloc ?_ _)); refine blk_far ?_ NB270_280.out _; (with_reducible repeat (first | refine blk_drewN ?_ _ | refine blk_drew ?_ | refine blk_alloc ?_ _)); refine blk_far ?_ NB270_280.out _; (with_reducible repeat (first | refine blk_drewN ?_ _ | refine blk_drew ?_ | refine blk_alloc ?_ _)); exact BK270.out) hb); have n2_ := Aside0.mk (blk_below (g := gb280) (o := .cells #[.int .i64 t275, .int .i64 t276, .int .i64 t277, .int .i64 t278, .bool t279] 26 (0, 0)) (by (with_reducible repeat (first | refine blk_drewN ?_ _ | refine blk_drew ?_ | refine blk_alloc ?_ _)); refine blk_put (cs := #[.int .i64 t275, .int .i64 t276, .int .i64 t277, .int .i64 t278, .bool false]) ?_ 4 _ rfl; (with_reducible repeat (first | refine blk_drewN ?_ _ | refine blk_drew ?_ | refine blk_alloc ?_ _)); refine blk_put (cs := #[.int .i64 t275, .int .i64 t276, .int .i64 t277, .int .i64 0, .bool false]) ?_ 3 _ rfl; (with_reducible repeat (first | refine blk_drewN ?_ _ | refine blk_drew ?_ | refine blk_alloc ?_ _)); refine blk_put (cs := #[.int .i64 t275, .int .i64 t276, .int .i64 0, .int .i64 0, .bool false]) ?_ 2 _ rfl; (with_reducible repeat (first | refine blk_drewN ?_ _ | refine blk_drew ?_ | refine blk_alloc ?_ _)); refine blk_put (cs := #[.int .i64 t275, .int .i64 0, .int .i64 0, .int .i64 0, .bool false]) ?_ 1 _ rfl; (with_reducible repeat (first | refine blk_drewN ?_ _ | refine blk_drew ?_ | refine blk_alloc ?_ _)); refine blk_put (cs := #[.int .i64 0, .int .i64 0, .int .i64 0, .int .i64 0, .bool false]) ?_ 0 _ rfl; (with_reducible repeat (first | refine blk_drewN ?_ _ | refine blk_drew ?_ | refine blk_alloc ?_ _)); exact BK280.out) hb); have n3_ := Aside0.mk (below_step (by repeat (first | (with_reducible first | exact HB.out | apply below_alloc | apply pw_below_drewN | apply below_drew1 | refine below_set ?_ GE269.out | refine below_set ?_ GE270.out | refine below_set ?_ GE280.out) | exact HB.out)) hb); clear BK269; clear BK270; clear BK280; clear HB; have BK269 := n0_; have BK270 := n1_; have BK280 := n2_; have HB := n3_; clear n0_ n1_ n2_ n3_; (try clear hb); (try clear hb2); (try clear hk); (try clear hi)) | ((with_reducible refine gate_dst (N := 11) rfl ?_); refine box_event ?hg (N := 11) ?hd (cs := #[.int .i64 0, .int .i64 0, .int .i64 0, .int .i64 0, .bool false]) (t := 26) ?hr ?_; (case hd => rfl); (case hg => rfl); (case hr => first | (go_simp; done) | (go_simp; rfl)); intro gb286 hg w157 hbox hb; have n0_ := Aside0.mk (blk_below (g := gb269) (o := .cells #[.int .i64 a0_0, .int .i64 a0_1, .int .i64 a0_2] 23 (0, 0)) (by (with_reducible repeat (first | refine blk_drewN ?_ _ | refine blk_drew ?_ | refine blk_alloc ?_ _)); exact BK269.out) hb); have n1_ := Aside0.mk (blk_below (g := gb270) (o := .cells #[.int .i64 a1_0, .int .i64 a1_1, .int .i64 a1_2, .int .i64 a1_3, .bool a1_4] 26 (0, 0)) (by (with_reducible repeat (first | refine blk_drewN ?_ _ | refine blk_drew ?_ | refine blk_alloc ?_ _)); exact BK270.out) hb); have n2_ := Aside0.mk (blk_below (g := gb280) (o := .cells #[.int .i64 t275, .int .i64 t276, .int .i64 t277, .int .i64 t278, .bool t279] 26 (0, 0)) (by (with_reducible repeat (first | refine blk_drewN ?_ _ | refine blk_drew ?_ | refine blk_alloc ?_ _)); exact BK280.out) hb); have n3_ := Aside0.mk (below_step (by repeat (first | (with_reducible first | exact HB.out | apply below_alloc | apply pw_below_drewN | apply below_drew1 | refine below_set ?_ GE269.out | refine below_set ?_ GE270.out | refine below_set ?_ GE280.out) | exact HB.out)) hb); have n4_ := Aside0.mk (hbox); have n5_ := Aside0.mk ((by rw [hg]; exact (below_size (by repeat (first | (with_reducible first | exact HB.out | apply below_alloc | apply pw_below_drewN | apply below_drew1 | refine below_set ?_ GE269.out | refine below_set ?_ GE270.out | refine below_set ?_ GE280.out) | exact HB.out))) : w.heap.size ≤ gb286)); have n6_ := Aside0.mk ((by rw [hg]; exact (below_size (by repeat (first | (with_reducible first | exact HB.out | apply below_alloc | apply pw_below_drewN | apply below_drew1 | refine below_set ?_ GE269.out | refine below_set ?_ GE270.out | refine below_set ?_ GE280.out) | exact HB.out))) : w.heap.size ≤ gb286)); have n7_ := Aside0.mk ((by rw [hg]; exact Nat.ne_of_lt (blk_lt (g := gb269) (o := .cells #[.int .i64 a0_0, .int .i64 a0_1, .int .i64 a0_2] 23 (0, 0)) (by (with_reducible repeat (first | refine blk_drewN ?_ _ | refine blk_drew ?_ | refine blk_alloc ?_ _)); exact BK269.out)) : gb269 ≠ gb286)); have n8_ := Aside0.mk ((by rw [hg]; exact Nat.ne_of_gt (blk_lt (g := gb269) (o := .cells #[.int .i64 a0_0, .int .i64 a0_1, .int .i64 a0_2] 23 (0, 0)) (by (with_reducible repeat (first | refine blk_drewN ?_ _ | refine blk_drew ?_ | refine blk_alloc ?_ _)); exact BK269.out)) : gb286 ≠ gb269)); have n9_ := Aside0.mk ((by rw [hg]; exact Nat.ne_of_lt (blk_lt (g := gb270) (o := .cells #[.int .i64 a1_0, .int .i64 a1_1, .int .i64 a1_2, .int .i64 a1_3, .bool a1_4] 26 (0, 0)) (by (with_reducible repeat (first | refine blk_drewN ?_ _ | refine blk_drew ?_ | refine blk_alloc ?_ _)); exact BK270.out)) : gb270 ≠ gb286)); have n10_ := Aside0.mk ((by rw [hg]; exact Nat.ne_of_gt (blk_lt (g := gb270) (o := .cells #[.int .i64 a1_0, .int .i64 a1_1, .int .i64 a1_2, .int .i64 a1_3, .bool a1_4] 26 (0, 0)) (by (with_reducible repeat (first | refine blk_drewN ?_ _ | refine blk_drew ?_ | refine blk_alloc ?_ _)); exact BK270.out)) : gb286 ≠ gb270)); have n11_ := Aside0.mk ((by rw [hg]; exact Nat.ne_of_lt (blk_lt (g := gb280) (o := .cells #[.int .i64 t275, .int .i64 t276, .int .i64 t277, .int .i64 t278, .bool t279] 26 (0, 0)) (by (with_reducible repeat (first | refine blk_drewN ?_ _ | refine blk_drew ?_ | refine blk_alloc ?_ _)); exact BK280.out)) : gb280 ≠ gb286)); have n12_ := Aside0.mk ((by rw [hg]; exact Nat.ne_of_gt (blk_lt (g := gb280) (o := .cells #[.int .i64 t275, .int .i64 t276, .int .i64 t277, .int .i64 t278, .bool t279] 26 (0, 0)) (by (with_reducible repeat (first | refine blk_drewN ?_ _ | refine blk_drew ?_ | refine blk_alloc ?_ _)); exact BK280.out)) : gb286 ≠ gb280)); clear BK269; clear BK270; clear BK280; clear HB; have BK269 := n0_; have BK270 := n1_; have BK280 := n2_; have HB := n3_; have BK286 := n4_; have GW286 := n5_; have GE286 := n6_; have NB269_286 := n7_; have NB286_269 := n8_; have NB270_286 := n9_; have NB286_270 := n10_; have NB280_286 := n11_; have NB286_280 := n12_; clear n0_ n1_ n2_ n3_ n4_ n5_ n6_ n7_ n8_ n9_ n10_ n11_ n12_; clear hb hbox hg; have hnb158 := NB286_269.out; have hnc158 := NB269_286.out; have hnb159 := NB286_270.out; have hnc159 := NB270_286.out; have hnb160 := NB286_280.out; have hnc160 := NB280_286.out; have hcz161_0 : w157.cell? ⟨gb286, 0, none⟩ = some (.int .i64 0) := (blk_cell BK286.out 0).trans rfl; have hcz161_1 : w157.cell? ⟨gb286, 1, none⟩ = some (.int .i64 0) := (blk_cell BK286.out 1).trans rfl; have hcz161_2 : w157.cell? ⟨gb286, 2, none⟩ = some (.int .i64 0) := (blk_cell BK286.out 2).trans rfl; have hcz161_3 : w157.cell? ⟨gb286, 3, none⟩ = some (.int .i64 0) := (blk_cell BK286.out 3).trans rfl; have hcz161_4 : w157.cell? ⟨gb286, 4, none⟩ = some (.bool false) := (blk_cell BK286.out 4).trans rfl; have hfz161_0 := blk_frozen BK286.out 0; have hfz161_1 := blk_frozen BK286.out 1; have hfz161_2 := blk_frozen BK286.out 2; have hfz161_3 := blk_frozen BK286.out 3; have hfz161_4 := blk_frozen BK286.out 4; have hcz162_0 : w157.cell? ⟨gb280, 0, none⟩ = some (.int .i64 t275) := (blk_cell BK280.out 0).trans rfl; have hcz162_1 : w157.cell? ⟨gb280, 1, none⟩ = some (.int .i64 t276) := (blk_cell BK280.out 1).trans rfl; have hcz162_2 : w157.cell? ⟨gb280, 2, none⟩ = some (.int .i64 t277) := (blk_cell BK280.out 2).trans rfl; have hcz162_3 : w157.cell? ⟨gb280, 3, none⟩ = some (.int .i64 t278) := (blk_cell BK280.out 3).trans rfl; have hcz162_4 : w157.cell? ⟨gb280, 4, none⟩ = some (.bool t279) := (blk_cell BK280.out 4).trans rfl; have hfz162_0 := blk_frozen BK280.out 0; have hfz162_1 := blk_frozen BK280.out 1; have hfz162_2 := blk_frozen BK280.out 2; have hfz162_3 := blk_frozen BK280.out 3; have hfz162_4 := blk_frozen BK280.out 4) | ((with_reducible refine gate_callee (f := 15) rfl ?_); refine goesL_ (some 38) rfl rfl Tryd.func15 (by kernel_rfl) rfl #[.agg #[.int .i64 t275, .int .i64 t276, .int .i64 t277, .int .i64 t278, .bool t279], .agg #[.int .i64 0, .int .i64 0, .int .i64 0, .int .i64 0, .bool false]] rfl (by (try simp only [List.map_toArray, List.map_cons, List.map_nil]); first | done | rfl | (simp only [List.length_drop, List.length_take]; rfl)) ?_; (with_reducible refine (annexref_SameEst.calls t275 t276 t277 t278 t279 0 0 0 0 false true _ A116.out).mono ?_); rintro e w163 ⟨rfl, hb⟩; refine ⟨_, rfl, ?_⟩; have n0_ := Aside0.mk (blk_below (g := gb269) (o := .cells #[.int .i64 a0_0, .int .i64 a0_1, .int .i64 a0_2] 23 (0, 0)) (by (with_reducible repeat (first | refine blk_drewN ?_ _ | refine blk_drew ?_ | refine blk_alloc ?_ _)); refine blk_far ?_ NB269_286.out _; (with_reducible repeat (first | refine blk_drewN ?_ _ | refine blk_drew ?_ | refine blk_alloc ?_ _)); refine blk_far ?_ NB269_286.out _; (with_reducible repeat (first | refine blk_drewN ?_ _ | refine blk_drew ?_ | refine blk_alloc ?_ _)); refine blk_far ?_ NB269_286.out _; (with_reducible repeat (first | refine blk_drewN ?_ _ | refine blk_drew ?_ | refine blk_alloc ?_ _)); refine blk_far ?_ NB269_286.out _; (with_reducible repeat (first | refine blk_drewN ?_ _ | refine blk_drew ?_ | refine blk_alloc ?_ _)); refine blk_far ?_ NB269_286.out _; (with_reducible repeat (first | refine blk_drewN ?_ _ | refine blk_drew ?_ | refine blk_alloc ?_ _)); exact BK269.out) hb); have n1_ := Aside0.mk (blk_below (g := gb270) (o := .cells #[.int .i64 a1_0, .int .i64 a1_1, .int .i64 a1_2, .int .i64 a1_3, .bool a1_4] 26 (0, 0)) (by (with_reducible repeat (first | refine blk_drewN ?_ _ | refine blk_drew ?_ | refine blk_alloc ?_ _)); refine blk_far ?_ NB270_286.out _; (with_reducible repeat (first | refine blk_drewN ?_ _ | refine blk_drew ?_ | refine blk_alloc ?_ _)); refine blk_far ?_ NB270_286.out _; (with_reducible repeat (first | refine blk_drewN ?_ _ | refine blk_drew ?_ | refine blk_alloc ?_ _)); refine blk_far ?_ NB270_286.out _; (with_reducible repeat (first | refine blk_drewN ?_ _ | refine blk_drew ?_ | refine blk_alloc ?_ _)); refine blk_far ?_ NB270_286.out _; (with_reducible repeat (first | refine blk_drewN ?_ _ | refine blk_drew ?_ | refine blk_alloc ?_ _)); refine blk_far ?_ NB270_286.out _; (with_reducible repeat (first | refine blk_drewN ?_ _ | refine blk_drew ?_ | refine blk_alloc ?_ _)); exact BK270.out) hb); have n2_ := Aside0.mk (blk_below (g := gb280) (o := .cells #[.int .i64 t275, .int .i64 t276, .int .i64 t277, .int .i64 t278, .bool t279] 26 (0, 0)) (by (with_reducible repeat (first | refine blk_drewN ?_ _ | refine blk_drew ?_ | refine blk_alloc ?_ _)); refine blk_far ?_ NB280_286.out _; (with_reducible repeat (first | refine blk_drewN ?_ _ | refine blk_drew ?_ | refine blk_alloc ?_ _)); refine blk_far ?_ NB280_286.out _; (with_reducible repeat (first | refine blk_drewN ?_ _ | refine blk_drew ?_ | refine blk_alloc ?_ _)); refine blk_far ?_ NB280_286.out _; (with_reducible repeat (first | refine blk_drewN ?_ _ | refine blk_drew ?_ | refine blk_alloc ?_ _)); refine blk_far ?_ NB280_286.out _; (with_reducible repeat (first | refine blk_drewN ?_ _ | refine blk_drew ?_ | refine blk_alloc ?_ _)); refine blk_far ?_ NB280_286.out _; (with_reducible repeat (first | refine blk_drewN ?_ _ | refine blk_drew ?_ | refine blk_alloc ?_ _)); exact BK280.out) hb); have n3_ := Aside0.mk (blk_below (g := gb286) (o := .cells #[.int .i64 t281, .int .i64 t282, .int .i64 t283, .int .i64 t284, .bool t285] 26 (0, 0)) (by (with_reducible repeat (first | refine blk_drewN ?_ _ | refine blk_drew ?_ | refine blk_alloc ?_ _)); refine blk_put (cs := #[.int .i64 t281, .int .i64 t282, .int .i64 t283, .int .i64 t284, .bool false]) ?_ 4 _ rfl; (with_reducible repeat (first | refine blk_drewN ?_ _ | refine blk_drew ?_ | refine blk_alloc ?_ _)); refine blk_put (cs := #[.int .i64 t281, .int .i64 t282, .int .i64 t283, .int .i64 0, .bool false]) ?_ 3 _ rfl; (with_reducible repeat (first | refine blk_drewN ?_ _ | refine blk_drew ?_ | refine blk_alloc ?_ _)); refine blk_put (cs := #[.int .i64 t281, .int .i64 t282, .int .i64 0, .int .i64 0, .bool false]) ?_ 2 _ rfl; (with_reducible repeat (first | refine blk_drewN ?_ _ | refine blk_drew ?_ | refine blk_alloc ?_ _)); refine blk_put (cs := #[.int .i64 t281, .int .i64 0, .int .i64 0, .int .i64 0, .bool false]) ?_ 1 _ rfl; (with_reducible repeat (first | refine blk_drewN ?_ _ | refine blk_drew ?_ | refine blk_alloc ?_ _)); refine blk_put (cs := #[.int .i64 0, .int .i64 0, .int .i64 0, .int .i64 0, .bool false]) ?_ 0 _ rfl; (with_reducible repeat (first | refine blk_drewN ?_ _ | refine blk_drew ?_ | refine blk_alloc ?_ _)); exact BK286.out) hb); have n4_ := Aside0.mk (below_step (by repeat (first | (with_reducible first | exact HB.out | apply below_alloc | apply pw_below_drewN | apply below_drew1 | refine below_set ?_ GE269.out | refine below_set ?_ GE270.out | refine below_set ?_ GE280.out | refine below_set ?_ GE286.out) | exact HB.out)) hb); clear BK269; clear BK270; clear BK280; clear BK286; clear HB; have BK269 := n0_; have BK270 := n1_; have BK280 := n2_; have BK286 := n3_; have HB := n4_; clear n0_ n1_ n2_ n3_ n4_; (try clear hb); (try clear hb2); (try clear hk); (try clear hi); have hcz164_0 : w163.cell? ⟨gb286, 0, none⟩ = some (.int .i64 t281) := (blk_cell BK286.out 0).trans rfl; have hcz164_1 : w163.cell? ⟨gb286, 1, none⟩ = some (.int .i64 t282) := (blk_cell BK286.out 1).trans rfl; have hcz164_2 : w163.cell? ⟨gb286, 2, none⟩ = some (.int .i64 t283) := (blk_cell BK286.out 2).trans rfl; have hcz164_3 : w163.cell? ⟨gb286, 3, none⟩ = some (.int .i64 t284) := (blk_cell BK286.out 3).trans rfl; have hcz164_4 : w163.cell? ⟨gb286, 4, none⟩ = some (.bool t285) := (blk_cell BK286.out 4).trans rfl; have hfz164_0 := blk_frozen BK286.out 0; have hfz164_1 := blk_frozen BK286.out 1; have hfz164_2 := blk_frozen BK286.out 2; have hfz164_3 := blk_frozen BK286.out 3; have hfz164_4 := blk_frozen BK286.out 4) | ((with_reducible refine gate_callee (f := 15) rfl ?_); refine goesL_ (some 41) rfl rfl Tryd.func15 (by kernel_rfl) rfl #[.agg #[.int .i64 t281, .int .i64 t282, .int .i64 t283, .int .i64 t284, .bool t285], .agg #[.int .i64 0, .int .i64 0, .int .i64 0, .int .i64 0, .bool false]] rfl (by (try simp only [List.map_toArray, List.map_cons, List.map_nil]); first | done | rfl | (simp only [List.length_drop, List.length_take]; rfl)) ?_; (with_reducible refine (annexref_SameEst.calls t281 t282 t283 t284 t285 0 0 0 0 false false _ A117.out).mono ?_); rintro e w165 ⟨rfl, hb⟩; refine ⟨_, rfl, ?_⟩; have n0_ := Aside0.mk (blk_below (g := gb269) (o := .cells #[.int .i64 a0_0, .int .i64 a0_1, .int .i64 a0_2] 23 (0, 0)) (by (with_reducible repeat (first | refine blk_drewN ?_ _ | refine blk_drew ?_ | refine blk_alloc ?_ _)); exact BK269.out) hb); have n1_ := Aside0.mk (blk_below (g := gb270) (o := .cells #[.int .i64 a1_0, .int .i64 a1_1, .int .i64 a1_2, .int .i64 a1_3, .bool a1_4] 26 (0, 0)) (by (with_reducible repeat (first | refine blk_drewN ?_ _ | refine blk_drew ?_ | refine blk_alloc ?_ _)); exact BK270.out) hb); have n2_ := Aside0.mk (blk_below (g := gb280) (o := .cells #[.int .i64 t275, .int .i64 t276, .int .i64 t277, .int .i64 t278, .bool t279] 26 (0, 0)) (by (with_reducible repeat (first | refine blk_drewN ?_ _ | refine blk_drew ?_ | refine blk_alloc ?_ _)); exact BK280.out) hb); have n3_ := Aside0.mk (blk_below (g := gb286) (o := .cells #[.int .i64 t281, .int .i64 t282, .int .i64 t283, .int .i64 t284, .bool t285] 26 (0, 0)) (by (with_reducible repeat (first | refine blk_drewN ?_ _ | refine blk_drew ?_ | refine blk_alloc ?_ _)); exact BK286.out) hb); have n4_ := Aside0.mk (below_step (by repeat (first | (with_reducible first | exact HB.out | apply below_alloc | apply pw_below_drewN | apply below_drew1 | refine below_set ?_ GE269.out | refine below_set ?_ GE270.out | refine below_set ?_ GE280.out | refine below_set ?_ GE286.out) | exact HB.out)) hb); clear BK269; clear BK270; clear BK280; clear BK286; clear HB; have BK269 := n0_; have BK270 := n1_; have BK280 := n2_; have BK286 := n3_; have HB := n4_; clear n0_ n1_ n2_ n3_ n4_; (try clear hb); (try clear hb2); (try clear hk); (try clear hi)))
              go_ret
              exact ⟨by first | rfl | (simp [errW_none, errW_some] <;> rfl) | (simp [*, errW_none, errW_some] <;> rfl), by repeat (first | (with_reducible first | exact HB.out | apply below_alloc | apply pw_below_drewN | apply below_drew1 | refine below_set ?_ GE269.out | refine below_set ?_ GE270.out | refine below_set ?_ GE280.out | refine below_set ?_ GE286.out) | exact HB.out)⟩
          · replace c118 := Bool.eq_false_iff.mpr c118
            subst c118
            have H1 : (some false) = some r := by rw [if_neg (show ¬ (false = true) by decide)] at H; exact H
            clear H
            have H := H1
            clear H1
            obtain rfl := Option.some.inj H
            have hnb166 := NB269_270.out
            have hnc166 := NB270_269.out
            have hcz167_0 : wc.cell? ⟨gb269, 0, none⟩ = some (.int .i64 a0_0) := (blk_cell BK269.out 0).trans rfl
            have hcz167_1 : wc.cell? ⟨gb269, 1, none⟩ = some (.int .i64 a0_1) := (blk_cell BK269.out 1).trans rfl
            have hcz167_2 : wc.cell? ⟨gb269, 2, none⟩ = some (.int .i64 a0_2) := (blk_cell BK269.out 2).trans rfl
            have hfz167_0 := blk_frozen BK269.out 0
            have hfz167_1 := blk_frozen BK269.out 1
            have hfz167_2 := blk_frozen BK269.out 2
            have hcz168_0 : wc.cell? ⟨gb270, 0, none⟩ = some (.int .i64 a1_0) := (blk_cell BK270.out 0).trans rfl
            have hcz168_1 : wc.cell? ⟨gb270, 1, none⟩ = some (.int .i64 a1_1) := (blk_cell BK270.out 1).trans rfl
            have hcz168_2 : wc.cell? ⟨gb270, 2, none⟩ = some (.int .i64 a1_2) := (blk_cell BK270.out 2).trans rfl
            have hcz168_3 : wc.cell? ⟨gb270, 3, none⟩ = some (.int .i64 a1_3) := (blk_cell BK270.out 3).trans rfl
            have hcz168_4 : wc.cell? ⟨gb270, 4, none⟩ = some (.bool a1_4) := (blk_cell BK270.out 4).trans rfl
            have hfz168_0 := blk_frozen BK270.out 0
            have hfz168_1 := blk_frozen BK270.out 1
            have hfz168_2 := blk_frozen BK270.out 2
            have hfz168_3 := blk_frozen BK270.out 3
            have hfz168_4 := blk_frozen BK270.out 4
            go_wp2_with (first | ((with_reducible refine gate_callee (f := 21) rfl ?_); refine goesL_ (some 27) rfl rfl Tryd.func21 (by kernel_rfl) rfl #[.agg #[.int .i64 a0_0, .int .i64 a0_1, .int .i64 a0_2], .agg #[.int .i64 a1_0, .int .i64 a1_1, .int .i64 a1_2, .int .i64 a1_3, .bool a1_4]] rfl (by (try simp only [List.map_toArray, List.map_cons, List.map_nil]); first | done | rfl | (simp only [List.length_drop, List.length_take]; rfl)) ?_; (with_reducible refine (rto_Wait.calls a0_0 a0_1 a0_2 a1_0 a1_1 a1_2 a1_3 a1_4 t274 _ ?side1 A22.out).mono ?_); (case side1 => exact Tied.below HG.out (by repeat (first | (with_reducible first | exact HB.out | apply below_alloc | apply pw_below_drewN | apply below_drew1 | refine below_set ?_ GE269.out | refine below_set ?_ GE270.out) | exact HB.out))); rintro e w169 ⟨rfl, hb⟩; refine ⟨_, rfl, ?_⟩; have n0_ := Aside0.mk (blk_below (g := gb269) (o := .cells #[.int .i64 a0_0, .int .i64 a0_1, .int .i64 a0_2] 23 (0, 0)) (by (with_reducible repeat (first | refine blk_drewN ?_ _ | refine blk_drew ?_ | refine blk_alloc ?_ _)); exact BK269.out) hb); have n1_ := Aside0.mk (blk_below (g := gb270) (o := .cells #[.int .i64 a1_0, .int .i64 a1_1, .int .i64 a1_2, .int .i64 a1_3, .bool a1_4] 26 (0, 0)) (by (with_reducible repeat (first | refine blk_drewN ?_ _ | refine blk_drew ?_ | refine blk_alloc ?_ _)); exact BK270.out) hb); have n2_ := Aside0.mk (below_step (by repeat (first | (with_reducible first | exact HB.out | apply below_alloc | apply pw_below_drewN | apply below_drew1 | refine below_set ?_ GE269.out | refine below_set ?_ GE270.out) | exact HB.out)) hb); clear BK269; clear BK270; clear HB; have BK269 := n0_; have BK270 := n1_; have HB := n2_; clear n0_ n1_ n2_; (try clear hb); (try clear hb2); (try clear hk); (try clear hi); have hcz170_0 : w169.cell? ⟨gb269, 0, none⟩ = some (.int .i64 a0_0) := (blk_cell BK269.out 0).trans rfl; have hcz170_1 : w169.cell? ⟨gb269, 1, none⟩ = some (.int .i64 a0_1) := (blk_cell BK269.out 1).trans rfl; have hcz170_2 : w169.cell? ⟨gb269, 2, none⟩ = some (.int .i64 a0_2) := (blk_cell BK269.out 2).trans rfl; have hfz170_0 := blk_frozen BK269.out 0; have hfz170_1 := blk_frozen BK269.out 1; have hfz170_2 := blk_frozen BK269.out 2; have hcz171_0 : w169.cell? ⟨gb270, 0, none⟩ = some (.int .i64 a1_0) := (blk_cell BK270.out 0).trans rfl; have hcz171_1 : w169.cell? ⟨gb270, 1, none⟩ = some (.int .i64 a1_1) := (blk_cell BK270.out 1).trans rfl; have hcz171_2 : w169.cell? ⟨gb270, 2, none⟩ = some (.int .i64 a1_2) := (blk_cell BK270.out 2).trans rfl; have hcz171_3 : w169.cell? ⟨gb270, 3, none⟩ = some (.int .i64 a1_3) := (blk_cell BK270.out 3).trans rfl; have hcz171_4 : w169.cell? ⟨gb270, 4, none⟩ = some (.bool a1_4) := (blk_cell BK270.out 4).trans rfl; have hfz171_0 := blk_frozen BK270.out 0; have hfz171_1 := blk_frozen BK270.out 1; have hfz171_2 := blk_frozen BK270.out 2; have hfz171_3 := blk_frozen BK270.out 3; have hfz171_4 := blk_frozen BK270.out 4) | ((with_reducible refine gate_callee (f := 17) rfl ?_); refine goesL_ (some 32) rfl rfl Tryd.func17 (by kernel_rfl) rfl #[.agg #[.int .i64 a0_0, .int .i64 a0_1, .int .i64 a0_2], .agg #[.int .i64 a1_0, .int .i64 a1_1, .int .i64 a1_2, .int .i64 a1_3, .bool a1_4], .int .i64 7] rfl (by (try simp only [List.map_toArray, List.map_cons, List.map_nil]); first | done | rfl | (simp only [List.length_drop, List.length_take]; rfl)) ?_; (with_reducible refine (rto_Sample.calls a0_0 a0_1 a0_2 a1_0 a1_1 a1_2 a1_3 a1_4 7 t275 t276 t277 t278 t279 _ ?side1 A114.out).mono ?_); (case side1 => exact Tied.below HG.out (by repeat (first | (with_reducible first | exact HB.out | apply below_alloc | apply pw_below_drewN | apply below_drew1 | refine below_set ?_ GE269.out | refine below_set ?_ GE270.out) | exact HB.out))); rintro e w172 ⟨rfl, hb⟩; refine ⟨_, rfl, ?_⟩; have n0_ := Aside0.mk (blk_below (g := gb269) (o := .cells #[.int .i64 a0_0, .int .i64 a0_1, .int .i64 a0_2] 23 (0, 0)) (by (with_reducible repeat (first | refine blk_drewN ?_ _ | refine blk_drew ?_ | refine blk_alloc ?_ _)); exact BK269.out) hb); have n1_ := Aside0.mk (blk_below (g := gb270) (o := .cells #[.int .i64 a1_0, .int .i64 a1_1, .int .i64 a1_2, .int .i64 a1_3, .bool a1_4] 26 (0, 0)) (by (with_reducible repeat (first | refine blk_drewN ?_ _ | refine blk_drew ?_ | refine blk_alloc ?_ _)); exact BK270.out) hb); have n2_ := Aside0.mk (below_step (by repeat (first | (with_reducible first | exact HB.out | apply below_alloc | apply pw_below_drewN | apply below_drew1 | refine below_set ?_ GE269.out | refine below_set ?_ GE270.out) | exact HB.out)) hb); clear BK269; clear BK270; clear HB; have BK269 := n0_; have BK270 := n1_; have HB := n2_; clear n0_ n1_ n2_; (try clear hb); (try clear hb2); (try clear hk); (try clear hi)) | ((with_reducible refine gate_dst (N := 10) rfl ?_); refine box_event ?hg (N := 10) ?hd (cs := #[.int .i64 0, .int .i64 0, .int .i64 0, .int .i64 0, .bool false]) (t := 26) ?hr ?_; (case hd => rfl); (case hg => rfl); (case hr => first | (go_simp; done) | (go_simp; rfl)); intro gb280 hg w173 hbox hb; have n0_ := Aside0.mk (blk_below (g := gb269) (o := .cells #[.int .i64 a0_0, .int .i64 a0_1, .int .i64 a0_2] 23 (0, 0)) (by (with_reducible repeat (first | refine blk_drewN ?_ _ | refine blk_drew ?_ | refine blk_alloc ?_ _)); exact BK269.out) hb); have n1_ := Aside0.mk (blk_below (g := gb270) (o := .cells #[.int .i64 a1_0, .int .i64 a1_1, .int .i64 a1_2, .int .i64 a1_3, .bool a1_4] 26 (0, 0)) (by (with_reducible repeat (first | refine blk_drewN ?_ _ | refine blk_drew ?_ | refine blk_alloc ?_ _)); exact BK270.out) hb); have n2_ := Aside0.mk (below_step (by repeat (first | (with_reducible first | exact HB.out | apply below_alloc | apply pw_below_drewN | apply below_drew1 | refine below_set ?_ GE269.out | refine below_set ?_ GE270.out) | exact HB.out)) hb); have n3_ := Aside0.mk (hbox); have n4_ := Aside0.mk ((by rw [hg]; exact (below_size (by repeat (first | (with_reducible first | exact HB.out | apply below_alloc | apply pw_below_drewN | apply below_drew1 | refine below_set ?_ GE269.out | refine below_set ?_ GE270.out) | exact HB.out))) : w.heap.size ≤ gb280)); have n5_ := Aside0.mk ((by rw [hg]; exact (below_size (by repeat (first | (with_reducible first | exact HB.out | apply below_alloc | apply pw_below_drewN | apply below_drew1 | refine below_set ?_ GE269.out | refine below_set ?_ GE270.out) | exact HB.out))) : w.heap.size ≤ gb280)); have n6_ := Aside0.mk ((by rw [hg]; exact Nat.ne_of_lt (blk_lt (g := gb269) (o := .cells #[.int .i64 a0_0, .int .i64 a0_1, .int .i64 a0_2] 23 (0, 0)) (by (with_reducible repeat (first | refine blk_drewN ?_ _ | refine blk_drew ?_ | refine blk_alloc ?_ _)); exact BK269.out)) : gb269 ≠ gb280)); have n7_ := Aside0.mk ((by rw [hg]; exact Nat.ne_of_gt (blk_lt (g := gb269) (o := .cells #[.int .i64 a0_0, .int .i64 a0_1, .int .i64 a0_2] 23 (0, 0)) (by (with_reducible repeat (first | refine blk_drewN ?_ _ | refine blk_drew ?_ | refine blk_alloc ?_ _)); exact BK269.out)) : gb280 ≠ gb269)); have n8_ := Aside0.mk ((by rw [hg]; exact Nat.ne_of_lt (blk_lt (g := gb270) (o := .cells #[.int .i64 a1_0, .int .i64 a1_1, .int .i64 a1_2, .int .i64 a1_3, .bool a1_4] 26 (0, 0)) (by (with_reducible repeat (first | refine blk_drewN ?_ _ | refine blk_drew ?_ | refine blk_alloc ?_ _)); exact BK270.out)) : gb270 ≠ gb280)); have n9_ := Aside0.mk ((by rw [hg]; exact Nat.ne_of_gt (blk_lt (g := gb270) (o := .cells #[.int .i64 a1_0, .int .i64 a1_1, .int .i64 a1_2, .int .i64 a1_3, .bool a1_4] 26 (0, 0)) (by (with_reducible repeat (first | refine blk_drewN ?_ _ | refine blk_drew ?_ | refine blk_alloc ?_ _)); exact BK270.out)) : gb280 ≠ gb270)); clear BK269; clear BK270; clear HB; have BK269 := n0_; have BK270 := n1_; have HB := n2_; have BK280 := n3_; have GW280 := n4_; have GE280 := n5_; have NB269_280 := n6_; have NB280_269 := n7_; have NB270_280 := n8_; have NB280_270 := n9_; clear n0_ n1_ n2_ n3_ n4_ n5_ n6_ n7_ n8_ n9_; clear hb hbox hg; have hnb174 := NB280_269.out; have hnc174 := NB269_280.out; have hnb175 := NB280_270.out; have hnc175 := NB270_280.out; have hcz176_0 : w173.cell? ⟨gb280, 0, none⟩ = some (.int .i64 0) := (blk_cell BK280.out 0).trans rfl; have hcz176_1 : w173.cell? ⟨gb280, 1, none⟩ = some (.int .i64 0) := (blk_cell BK280.out 1).trans rfl; have hcz176_2 : w173.cell? ⟨gb280, 2, none⟩ = some (.int .i64 0) := (blk_cell BK280.out 2).trans rfl; have hcz176_3 : w173.cell? ⟨gb280, 3, none⟩ = some (.int .i64 0) := (blk_cell BK280.out 3).trans rfl; have hcz176_4 : w173.cell? ⟨gb280, 4, none⟩ = some (.bool false) := (blk_cell BK280.out 4).trans rfl; have hfz176_0 := blk_frozen BK280.out 0; have hfz176_1 := blk_frozen BK280.out 1; have hfz176_2 := blk_frozen BK280.out 2; have hfz176_3 := blk_frozen BK280.out 3; have hfz176_4 := blk_frozen BK280.out 4; have hcz177_0 : w173.cell? ⟨gb269, 0, none⟩ = some (.int .i64 a0_0) := (blk_cell BK269.out 0).trans rfl; have hcz177_1 : w173.cell? ⟨gb269, 1, none⟩ = some (.int .i64 a0_1) := (blk_cell BK269.out 1).trans rfl; have hcz177_2 : w173.cell? ⟨gb269, 2, none⟩ = some (.int .i64 a0_2) := (blk_cell BK269.out 2).trans rfl; have hfz177_0 := blk_frozen BK269.out 0; have hfz177_1 := blk_frozen BK269.out 1; have hfz177_2 := blk_frozen BK269.out 2; have hcz178_0 : w173.cell? ⟨gb270, 0, none⟩ = some (.int .i64 a1_0) := (blk_cell BK270.out 0).trans rfl; have hcz178_1 : w173.cell? ⟨gb270, 1, none⟩ = some (.int .i64 a1_1) := (blk_cell BK270.out 1).trans rfl; have hcz178_2 : w173.cell? ⟨gb270, 2, none⟩ = some (.int .i64 a1_2) := (blk_cell BK270.out 2).trans rfl; have hcz178_3 : w173.cell? ⟨gb270, 3, none⟩ = some (.int .i64 a1_3) := (blk_cell BK270.out 3).trans rfl; have hcz178_4 : w173.cell? ⟨gb270, 4, none⟩ = some (.bool a1_4) := (blk_cell BK270.out 4).trans rfl; have hfz178_0 := blk_frozen BK270.out 0; have hfz178_1 := blk_frozen BK270.out 1; have hfz178_2 := blk_frozen BK270.out 2; have hfz178_3 := blk_frozen BK270.out 3; have hfz178_4 := blk_frozen BK270.out 4) | ((with_reducible refine gate_callee (f := 19) rfl ?_); refine goesL_ (some 35) rfl rfl Tryd.func19 (by kernel_rfl) rfl #[.agg #[.int .i64 a0_0, .int .i64 a0_1, .int .i64 a0_2], .agg #[.int .i64 a1_0, .int .i64 a1_1, .int .i64 a1_2, .int .i64 a1_3, .bool a1_4]] rfl (by (try simp only [List.map_toArray, List.map_cons, List.map_nil]); first | done | rfl | (simp only [List.length_drop, List.length_take]; rfl)) ?_; (with_reducible refine (rto_Expire.calls a0_0 a0_1 a0_2 a1_0 a1_1 a1_2 a1_3 a1_4 t281 t282 t283 t284 t285 _ ?side1 A115.out).mono ?_); (case side1 => exact Tied.below HG.out (by repeat (first | (with_reducible first | exact HB.out | apply below_alloc | apply pw_below_drewN | apply below_drew1 | refine below_set ?_ GE269.out | refine below_set ?_ GE270.out | refine below_set ?_ GE280.out) | exact HB.out))); rintro e w179 ⟨rfl, hb⟩; refine ⟨_, rfl, ?_⟩; have n0_ := Aside0.mk (blk_below (g := gb269) (o := .cells #[.int .i64 a0_0, .int .i64 a0_1, .int .i64 a0_2] 23 (0, 0)) (by (with_reducible repeat (first | refine blk_drewN ?_ _ | refine blk_drew ?_ | refine blk_alloc ?_ _)); refine blk_far ?_ NB269_280.out _; (with_reducible repeat (first | refine blk_drewN ?_ _ | refine blk_drew ?_ | refine blk_alloc ?_ _)); refine blk_far ?_ NB269_280.out _; (with_reducible repeat (first | refine blk_drewN ?_ _ | refine blk_drew ?_ | refine blk_alloc ?_ _)); refine blk_far ?_ NB269_280.out _; (with_reducible repeat (first | refine blk_drewN ?_ _ | refine blk_drew ?_ | refine blk_alloc ?_ _)); refine blk_far ?_ NB269_280.out _; (with_reducible repeat (first | refine blk_drewN ?_ _ | refine blk_drew ?_ | refine blk_alloc ?_ _)); refine blk_far ?_ NB269_280.out _; (with_reducible repeat (first | refine blk_drewN ?_ _ | refine blk_drew ?_ | refine blk_alloc ?_ _)); exact BK269.out) hb); have n1_ := Aside0.mk (blk_below (g := gb270) (o := .cells #[.int .i64 a1_0, .int .i64 a1_1, .int .i64 a1_2, .int .i64 a1_3, .bool a1_4] 26 (0, 0)) (by (with_reducible repeat (first | refine blk_drewN ?_ _ | refine blk_drew ?_ | refine blk_alloc ?_ _)); refine blk_far ?_ NB270_280.out _; (with_reducible repeat (first | refine blk_drewN ?_ _ | refine blk_drew ?_ | refine blk_alloc ?_ _)); refine blk_far ?_ NB270_280.out _; (with_reducible repeat (first | refine blk_drewN ?_ _ | refine blk_drew ?_ | refine blk_alloc ?_ _)); refine blk_far ?_ NB270_280.out _; (with_reducible repeat (first | refine blk_drewN ?_ _ | refine blk_drew ?_ | refine blk_alloc ?_ _)); refine blk_far ?_ NB270_280.out _; (with_reducible repeat (first | refine blk_drewN ?_ _ | refine blk_drew ?_ | refine blk_alloc ?_ _)); refine blk_far ?_ NB270_280.out _; (with_reducible repeat (first | refine blk_drewN ?_ _ | refine blk_drew ?_ | refine blk_alloc ?_ _)); exact BK270.out) hb); have n2_ := Aside0.mk (blk_below (g := gb280) (o := .cells #[.int .i64 t275, .int .i64 t276, .int .i64 t277, .int .i64 t278, .bool t279] 26 (0, 0)) (by (with_reducible repeat (first | refine blk_drewN ?_ _ | refine blk_drew ?_ | refine blk_alloc ?_ _)); refine blk_put (cs := #[.int .i64 t275, .int .i64 t276, .int .i64 t277, .int .i64 t278, .bool false]) ?_ 4 _ rfl; (with_reducible repeat (first | refine blk_drewN ?_ _ | refine blk_drew ?_ | refine blk_alloc ?_ _)); refine blk_put (cs := #[.int .i64 t275, .int .i64 t276, .int .i64 t277, .int .i64 0, .bool false]) ?_ 3 _ rfl; (with_reducible repeat (first | refine blk_drewN ?_ _ | refine blk_drew ?_ | refine blk_alloc ?_ _)); refine blk_put (cs := #[.int .i64 t275, .int .i64 t276, .int .i64 0, .int .i64 0, .bool false]) ?_ 2 _ rfl; (with_reducible repeat (first | refine blk_drewN ?_ _ | refine blk_drew ?_ | refine blk_alloc ?_ _)); refine blk_put (cs := #[.int .i64 t275, .int .i64 0, .int .i64 0, .int .i64 0, .bool false]) ?_ 1 _ rfl; (with_reducible repeat (first | refine blk_drewN ?_ _ | refine blk_drew ?_ | refine blk_alloc ?_ _)); refine blk_put (cs := #[.int .i64 0, .int .i64 0, .int .i64 0, .int .i64 0, .bool false]) ?_ 0 _ rfl; (with_reducible repeat (first | refine blk_drewN ?_ _ | refine blk_drew ?_ | refine blk_alloc ?_ _)); exact BK280.out) hb); have n3_ := Aside0.mk (below_step (by repeat (first | (with_reducible first | exact HB.out | apply below_alloc | apply pw_below_drewN | apply below_drew1 | refine below_set ?_ GE269.out | refine below_set ?_ GE270.out | refine below_set ?_ GE280.out) | exact HB.out)) hb); clear BK269; clear BK270; clear BK280; clear HB; have BK269 := n0_; have BK270 := n1_; have BK280 := n2_; have HB := n3_; clear n0_ n1_ n2_ n3_; (try clear hb); (try clear hb2); (try clear hk); (try clear hi)) | ((with_reducible refine gate_dst (N := 11) rfl ?_); refine box_event ?hg (N := 11) ?hd (cs := #[.int .i64 0, .int .i64 0, .int .i64 0, .int .i64 0, .bool false]) (t := 26) ?hr ?_; (case hd => rfl); (case hg => rfl); (case hr => first | (go_simp; done) | (go_simp; rfl)); intro gb286 hg w180 hbox hb; have n0_ := Aside0.mk (blk_below (g := gb269) (o := .cells #[.int .i64 a0_0, .int .i64 a0_1, .int .i64 a0_2] 23 (0, 0)) (by (with_reducible repeat (first | refine blk_drewN ?_ _ | refine blk_drew ?_ | refine blk_alloc ?_ _)); exact BK269.out) hb); have n1_ := Aside0.mk (blk_below (g := gb270) (o := .cells #[.int .i64 a1_0, .int .i64 a1_1, .int .i64 a1_2, .int .i64 a1_3, .bool a1_4] 26 (0, 0)) (by (with_reducible repeat (first | refine blk_drewN ?_ _ | refine blk_drew ?_ | refine blk_alloc ?_ _)); exact BK270.out) hb); have n2_ := Aside0.mk (blk_below (g := gb280) (o := .cells #[.int .i64 t275, .int .i64 t276, .int .i64 t277, .int .i64 t278, .bool t279] 26 (0, 0)) (by (with_reducible repeat (first | refine blk_drewN ?_ _ | refine blk_drew ?_ | refine blk_alloc ?_ _)); exact BK280.out) hb); have n3_ := Aside0.mk (below_step (by repeat (first | (with_reducible first | exact HB.out | apply below_alloc | apply pw_below_drewN | apply below_drew1 | refine below_set ?_ GE269.out | refine below_set ?_ GE270.out | refine below_set ?_ GE280.out) | exact HB.out)) hb); have n4_ := Aside0.mk (hbox); have n5_ := Aside0.mk ((by rw [hg]; exact (below_size (by repeat (first | (with_reducible first | exact HB.out | apply below_alloc | apply pw_below_drewN | apply below_drew1 | refine below_set ?_ GE269.out | refine below_set ?_ GE270.out | refine below_set ?_ GE280.out) | exact HB.out))) : w.heap.size ≤ gb286)); have n6_ := Aside0.mk ((by rw [hg]; exact (below_size (by repeat (first | (with_reducible first | exact HB.out | apply below_alloc | apply pw_below_drewN | apply below_drew1 | refine below_set ?_ GE269.out | refine below_set ?_ GE270.out | refine below_set ?_ GE280.out) | exact HB.out))) : w.heap.size ≤ gb286)); have n7_ := Aside0.mk ((by rw [hg]; exact Nat.ne_of_lt (blk_lt (g := gb269) (o := .cells #[.int .i64 a0_0, .int .i64 a0_1, .int .i64 a0_2] 23 (0, 0)) (by (with_reducible repeat (first | refine blk_drewN ?_ _ | refine blk_drew ?_ | refine blk_alloc ?_ _)); exact BK269.out)) : gb269 ≠ gb286)); have n8_ := Aside0.mk ((by rw [hg]; exact Nat.ne_of_gt (blk_lt (g := gb269) (o := .cells #[.int .i64 a0_0, .int .i64 a0_1, .int .i64 a0_2] 23 (0, 0)) (by (with_reducible repeat (first | refine blk_drewN ?_ _ | refine blk_drew ?_ | refine blk_alloc ?_ _)); exact BK269.out)) : gb286 ≠ gb269)); have n9_ := Aside0.mk ((by rw [hg]; exact Nat.ne_of_lt (blk_lt (g := gb270) (o := .cells #[.int .i64 a1_0, .int .i64 a1_1, .int .i64 a1_2, .int .i64 a1_3, .bool a1_4] 26 (0, 0)) (by (with_reducible repeat (first | refine blk_drewN ?_ _ | refine blk_drew ?_ | refine blk_alloc ?_ _)); exact BK270.out)) : gb270 ≠ gb286)); have n10_ := Aside0.mk ((by rw [hg]; exact Nat.ne_of_gt (blk_lt (g := gb270) (o := .cells #[.int .i64 a1_0, .int .i64 a1_1, .int .i64 a1_2, .int .i64 a1_3, .bool a1_4] 26 (0, 0)) (by (with_reducible repeat (first | refine blk_drewN ?_ _ | refine blk_drew ?_ | refine blk_alloc ?_ _)); exact BK270.out)) : gb286 ≠ gb270)); have n11_ := Aside0.mk ((by rw [hg]; exact Nat.ne_of_lt (blk_lt (g := gb280) (o := .cells #[.int .i64 t275, .int .i64 t276, .int .i64 t277, .int .i64 t278, .bool t279] 26 (0, 0)) (by (with_reducible repeat (first | refine blk_drewN ?_ _ | refine blk_drew ?_ | refine blk_alloc ?_ _)); exact BK280.out)) : gb280 ≠ gb286)); have n12_ := Aside0.mk ((by rw [hg]; exact Nat.ne_of_gt (blk_lt (g := gb280) (o := .cells #[.int .i64 t275, .int .i64 t276, .int .i64 t277, .int .i64 t278, .bool t279] 26 (0, 0)) (by (with_reducible repeat (first | refine blk_drewN ?_ _ | refine blk_drew ?_ | refine blk_alloc ?_ _)); exact BK280.out)) : gb286 ≠ gb280)); clear BK269; clear BK270; clear BK280; clear HB; have BK269 := n0_; have BK270 := n1_; have BK280 := n2_; have HB := n3_; have BK286 := n4_; have GW286 := n5_; have GE286 := n6_; have NB269_286 := n7_; have NB286_269 := n8_; have NB270_286 := n9_; have NB286_270 := n10_; have NB280_286 := n11_; have NB286_280 := n12_; clear n0_ n1_ n2_ n3_ n4_ n5_ n6_ n7_ n8_ n9_ n10_ n11_ n12_; clear hb hbox hg; have hnb181 := NB286_269.out; have hnc181 := NB269_286.out; have hnb182 := NB286_270.out; have hnc182 := NB270_286.out; have hnb183 := NB286_280.out; have hnc183 := NB280_286.out; have hcz184_0 : w180.cell? ⟨gb286, 0, none⟩ = some (.int .i64 0) := (blk_cell BK286.out 0).trans rfl; have hcz184_1 : w180.cell? ⟨gb286, 1, none⟩ = some (.int .i64 0) := (blk_cell BK286.out 1).trans rfl; have hcz184_2 : w180.cell? ⟨gb286, 2, none⟩ = some (.int .i64 0) := (blk_cell BK286.out 2).trans rfl; have hcz184_3 : w180.cell? ⟨gb286, 3, none⟩ = some (.int .i64 0) := (blk_cell BK286.out 3).trans rfl; have hcz184_4 : w180.cell? ⟨gb286, 4, none⟩ = some (.bool false) := (blk_cell BK286.out 4).trans rfl; have hfz184_0 := blk_frozen BK286.out 0; have hfz184_1 := blk_frozen BK286.out 1; have hfz184_2 := blk_frozen BK286.out 2; have hfz184_3 := blk_frozen BK286.out 3; have hfz184_4 := blk_frozen BK286.out 4; have hcz185_0 : w180.cell? ⟨gb280, 0, none⟩ = some (.int .i64 t275) := (blk_cell BK280.out 0).trans rfl; have hcz185_1 : w180.cell? ⟨gb280, 1, none⟩ = some (.int .i64 t276) := (blk_cell BK280.out 1).trans rfl; have hcz185_2 : w180.cell? ⟨gb280, 2, none⟩ = some (.int .i64 t277) := (blk_cell BK280.out 2).trans rfl; have hcz185_3 : w180.cell? ⟨gb280, 3, none⟩ = some (.int .i64 t278) := (blk_cell BK280.out 3).trans rfl; have hcz185_4 : w180.cell? ⟨gb280, 4, none⟩ = some (.bool t279) := (blk_cell BK280.out 4).trans rfl; have hfz185_0 := blk_frozen BK280.out 0; have hfz185_1 := blk_frozen BK280.out 1; have hfz185_2 := blk_frozen BK280.out 2; have hfz185_3 := blk_frozen BK280.out 3; have hfz185_4 := blk_frozen BK280.out 4) | ((with_reducible refine gate_callee (f := 15) rfl ?_); refine goesL_ (some 38) rfl rfl Tryd.func15 (by kernel_rfl) rfl #[.agg #[.int .i64 t275, .int .i64 t276, .int .i64 t277, .int .i64 t278, .bool t279], .agg #[.int .i64 0, .int .i64 0, .int .i64 0, .int .i64 0, .bool false]] rfl (by (try simp only [List.map_toArray, List.map_cons, List.map_nil]); first | done | rfl | (simp only [List.length_drop, List.length_take]; rfl)) ?_; (with_reducible refine (annexref_SameEst.calls t275 t276 t277 t278 t279 0 0 0 0 false false _ A116.out).mono ?_); rintro e w186 ⟨rfl, hb⟩; refine ⟨_, rfl, ?_⟩; have n0_ := Aside0.mk (blk_below (g := gb269) (o := .cells #[.int .i64 a0_0, .int .i64 a0_1, .int .i64 a0_2] 23 (0, 0)) (by (with_reducible repeat (first | refine blk_drewN ?_ _ | refine blk_drew ?_ | refine blk_alloc ?_ _)); refine blk_far ?_ NB269_286.out _; (with_reducible repeat (first | refine blk_drewN ?_ _ | refine blk_drew ?_ | refine blk_alloc ?_ _)); refine blk_far ?_ NB269_286.out _; (with_reducible repeat (first | refine blk_drewN ?_ _ | refine blk_drew ?_ | refine blk_alloc ?_ _)); refine blk_far ?_ NB269_286.out _; (with_reducible repeat (first | refine blk_drewN ?_ _ | refine blk_drew ?_ | refine blk_alloc ?_ _)); refine blk_far ?_ NB269_286.out _; (with_reducible repeat (first | refine blk_drewN ?_ _ | refine blk_drew ?_ | refine blk_alloc ?_ _)); refine blk_far ?_ NB269_286.out _; (with_reducible repeat (first | refine blk_drewN ?_ _ | refine blk_drew ?_ | refine blk_alloc ?_ _)); exact BK269.out) hb); have n1_ := Aside0.mk (blk_below (g := gb270) (o := .cells #[.int .i64 a1_0, .int .i64 a1_1, .int .i64 a1_2, .int .i64 a1_3, .bool a1_4] 26 (0, 0)) (by (with_reducible repeat (first | refine blk_drewN ?_ _ | refine blk_drew ?_ | refine blk_alloc ?_ _)); refine blk_far ?_ NB270_286.out _; (with_reducible repeat (first | refine blk_drewN ?_ _ | refine blk_drew ?_ | refine blk_alloc ?_ _)); refine blk_far ?_ NB270_286.out _; (with_reducible repeat (first | refine blk_drewN ?_ _ | refine blk_drew ?_ | refine blk_alloc ?_ _)); refine blk_far ?_ NB270_286.out _; (with_reducible repeat (first | refine blk_drewN ?_ _ | refine blk_drew ?_ | refine blk_alloc ?_ _)); refine blk_far ?_ NB270_286.out _; (with_reducible repeat (first | refine blk_drewN ?_ _ | refine blk_drew ?_ | refine blk_alloc ?_ _)); refine blk_far ?_ NB270_286.out _; (with_reducible repeat (first | refine blk_drewN ?_ _ | refine blk_drew ?_ | refine blk_alloc ?_ _)); exact BK270.out) hb); have n2_ := Aside0.mk (blk_below (g := gb280) (o := .cells #[.int .i64 t275, .int .i64 t276, .int .i64 t277, .int .i64 t278, .bool t279] 26 (0, 0)) (by (with_reducible repeat (first | refine blk_drewN ?_ _ | refine blk_drew ?_ | refine blk_alloc ?_ _)); refine blk_far ?_ NB280_286.out _; (with_reducible repeat (first | refine blk_drewN ?_ _ | refine blk_drew ?_ | refine blk_alloc ?_ _)); refine blk_far ?_ NB280_286.out _; (with_reducible repeat (first | refine blk_drewN ?_ _ | refine blk_drew ?_ | refine blk_alloc ?_ _)); refine blk_far ?_ NB280_286.out _; (with_reducible repeat (first | refine blk_drewN ?_ _ | refine blk_drew ?_ | refine blk_alloc ?_ _)); refine blk_far ?_ NB280_286.out _; (with_reducible repeat (first | refine blk_drewN ?_ _ | refine blk_drew ?_ | refine blk_alloc ?_ _)); refine blk_far ?_ NB280_286.out _; (with_reducible repeat (first | refine blk_drewN ?_ _ | refine blk_drew ?_ | refine blk_alloc ?_ _)); exact BK280.out) hb); have n3_ := Aside0.mk (blk_below (g := gb286) (o := .cells #[.int .i64 t281, .int .i64 t282, .int .i64 t283, .int .i64 t284, .bool t285] 26 (0, 0)) (by (with_reducible repeat (first | refine blk_drewN ?_ _ | refine blk_drew ?_ | refine blk_alloc ?_ _)); refine blk_put (cs := #[.int .i64 t281, .int .i64 t282, .int .i64 t283, .int .i64 t284, .bool false]) ?_ 4 _ rfl; (with_reducible repeat (first | refine blk_drewN ?_ _ | refine blk_drew ?_ | refine blk_alloc ?_ _)); refine blk_put (cs := #[.int .i64 t281, .int .i64 t282, .int .i64 t283, .int .i64 0, .bool false]) ?_ 3 _ rfl; (with_reducible repeat (first | refine blk_drewN ?_ _ | refine blk_drew ?_ | refine blk_alloc ?_ _)); refine blk_put (cs := #[.int .i64 t281, .int .i64 t282, .int .i64 0, .int .i64 0, .bool false]) ?_ 2 _ rfl; (with_reducible repeat (first | refine blk_drewN ?_ _ | refine blk_drew ?_ | refine blk_alloc ?_ _)); refine blk_put (cs := #[.int .i64 t281, .int .i64 0, .int .i64 0, .int .i64 0, .bool false]) ?_ 1 _ rfl; (with_reducible repeat (first | refine blk_drewN ?_ _ | refine blk_drew ?_ | refine blk_alloc ?_ _)); refine blk_put (cs := #[.int .i64 0, .int .i64 0, .int .i64 0, .int .i64 0, .bool false]) ?_ 0 _ rfl; (with_reducible repeat (first | refine blk_drewN ?_ _ | refine blk_drew ?_ | refine blk_alloc ?_ _)); exact BK286.out) hb); have n4_ := Aside0.mk (below_step (by repeat (first | (with_reducible first | exact HB.out | apply below_alloc | apply pw_below_drewN | apply below_drew1 | refine below_set ?_ GE269.out | refine below_set ?_ GE270.out | refine below_set ?_ GE280.out | refine below_set ?_ GE286.out) | exact HB.out)) hb); clear BK269; clear BK270; clear BK280; clear BK286; clear HB; have BK269 := n0_; have BK270 := n1_; have BK280 := n2_; have BK286 := n3_; have HB := n4_; clear n0_ n1_ n2_ n3_ n4_; (try clear hb); (try clear hb2); (try clear hk); (try clear hi); have hcz187_0 : w186.cell? ⟨gb286, 0, none⟩ = some (.int .i64 t281) := (blk_cell BK286.out 0).trans rfl; have hcz187_1 : w186.cell? ⟨gb286, 1, none⟩ = some (.int .i64 t282) := (blk_cell BK286.out 1).trans rfl; have hcz187_2 : w186.cell? ⟨gb286, 2, none⟩ = some (.int .i64 t283) := (blk_cell BK286.out 2).trans rfl; have hcz187_3 : w186.cell? ⟨gb286, 3, none⟩ = some (.int .i64 t284) := (blk_cell BK286.out 3).trans rfl; have hcz187_4 : w186.cell? ⟨gb286, 4, none⟩ = some (.bool t285) := (blk_cell BK286.out 4).trans rfl; have hfz187_0 := blk_frozen BK286.out 0; have hfz187_1 := blk_frozen BK286.out 1; have hfz187_2 := blk_frozen BK286.out 2; have hfz187_3 := blk_frozen BK286.out 3; have hfz187_4 := blk_frozen BK286.out 4) | ((with_reducible refine gate_callee (f := 15) rfl ?_); refine goesL_ (some 41) rfl rfl Tryd.func15 (by kernel_rfl) rfl #[.agg #[.int .i64 t281, .int .i64 t282, .int .i64 t283, .int .i64 t284, .bool t285], .agg #[.int .i64 0, .int .i64 0, .int .i64 0, .int .i64 0, .bool false]] rfl (by (try simp only [List.map_toArray, List.map_cons, List.map_nil]); first | done | rfl | (simp only [List.length_drop, List.length_take]; rfl)) ?_; (with_reducible refine (annexref_SameEst.calls t281 t282 t283 t284 t285 0 0 0 0 false t288 _ A117.out).mono ?_); rintro e w188 ⟨rfl, hb⟩; refine ⟨_, rfl, ?_⟩; have n0_ := Aside0.mk (blk_below (g := gb269) (o := .cells #[.int .i64 a0_0, .int .i64 a0_1, .int .i64 a0_2] 23 (0, 0)) (by (with_reducible repeat (first | refine blk_drewN ?_ _ | refine blk_drew ?_ | refine blk_alloc ?_ _)); exact BK269.out) hb); have n1_ := Aside0.mk (blk_below (g := gb270) (o := .cells #[.int .i64 a1_0, .int .i64 a1_1, .int .i64 a1_2, .int .i64 a1_3, .bool a1_4] 26 (0, 0)) (by (with_reducible repeat (first | refine blk_drewN ?_ _ | refine blk_drew ?_ | refine blk_alloc ?_ _)); exact BK270.out) hb); have n2_ := Aside0.mk (blk_below (g := gb280) (o := .cells #[.int .i64 t275, .int .i64 t276, .int .i64 t277, .int .i64 t278, .bool t279] 26 (0, 0)) (by (with_reducible repeat (first | refine blk_drewN ?_ _ | refine blk_drew ?_ | refine blk_alloc ?_ _)); exact BK280.out) hb); have n3_ := Aside0.mk (blk_below (g := gb286) (o := .cells #[.int .i64 t281, .int .i64 t282, .int .i64 t283, .int .i64 t284, .bool t285] 26 (0, 0)) (by (with_reducible repeat (first | refine blk_drewN ?_ _ | refine blk_drew ?_ | refine blk_alloc ?_ _)); exact BK286.out) hb); have n4_ := Aside0.mk (below_step (by repeat (first | (with_reducible first | exact HB.out | apply below_alloc | apply pw_below_drewN | apply below_drew1 | refine below_set ?_ GE269.out | refine below_set ?_ GE270.out | refine below_set ?_ GE280.out | refine below_set ?_ GE286.out) | exact HB.out)) hb); clear BK269; clear BK270; clear BK280; clear BK286; clear HB; have BK269 := n0_; have BK270 := n1_; have BK280 := n2_; have BK286 := n3_; have HB := n4_; clear n0_ n1_ n2_ n3_ n4_; (try clear hb); (try clear hb2); (try clear hk); (try clear hi)))
            go_ret
            exact ⟨by first | rfl | (simp [errW_none, errW_some] <;> rfl) | (simp [*, errW_none, errW_some] <;> rfl), by repeat (first | (with_reducible first | exact HB.out | apply below_alloc | apply pw_below_drewN | apply below_drew1 | refine below_set ?_ GE269.out | refine below_set ?_ GE270.out | refine below_set ?_ GE280.out | refine below_set ?_ GE286.out) | exact HB.out)⟩
  · replace c5 := Bool.eq_false_iff.mpr c5
    subst c5
    have H1 : (some false) = some r := by rw [if_neg (show ¬ (false = true) by decide)] at H; exact H
    clear H
    have H := H1
    clear H1
    obtain rfl := Option.some.inj H
    go_enter Tryd.func8, Tryd.ntmps8
    go_wp2_with (first | ((with_reducible refine gate_dst (N := 3) rfl ?_); refine box_event ?hg (N := 3) ?hd (cs := #[.int .i64 a0_0, .int .i64 a0_1, .int .i64 a0_2]) (t := 23) ?hr ?_; (case hd => rfl); (case hg => rfl); (case hr => first | (go_simp; done) | (go_simp; rfl)); intro gb269 hg w189 hbox hb; have n0_ := Aside0.mk (below_step (by repeat (first | (with_reducible first | exact HB.out | apply below_alloc | apply pw_below_drewN | apply below_drew1) | exact HB.out)) hb); have n1_ := Aside0.mk (hbox); have n2_ := Aside0.mk ((by rw [hg]; exact (below_size (by repeat (first | (with_reducible first | exact HB.out | apply below_alloc | apply pw_below_drewN | apply below_drew1) | exact HB.out))) : w.heap.size ≤ gb269)); have n3_ := Aside0.mk ((by rw [hg]; exact (below_size (by repeat (first | (with_reducible first | exact HB.out | apply below_alloc | apply pw_below_drewN | apply below_drew1) | exact HB.out))) : w.heap.size ≤ gb269)); clear HB; have HB := n0_; have BK269 := n1_; have GW269 := n2_; have GE269 := n3_; clear n0_ n1_ n2_ n3_; clear hb hbox hg) | ((with_reducible refine gate_dst (N := 4) rfl ?_); refine box_event ?hg (N := 4) ?hd (cs := #[.int .i64 a1_0, .int .i64 a1_1, .int .i64 a1_2, .int .i64 a1_3, .bool a1_4]) (t := 26) ?hr ?_; (case hd => rfl); (case hg => rfl); (case hr => first | (go_simp; done) | (go_simp; rfl)); intro gb270 hg w190 hbox hb; have n0_ := Aside0.mk (blk_below (g := gb269) (o := .cells #[.int .i64 a0_0, .int .i64 a0_1, .int .i64 a0_2] 23 (0, 0)) (by (with_reducible repeat (first | refine blk_drewN ?_ _ | refine blk_drew ?_ | refine blk_alloc ?_ _)); exact BK269.out) hb); have n1_ := Aside0.mk (below_step (by repeat (first | (with_reducible first | exact HB.out | apply below_alloc | apply pw_below_drewN | apply below_drew1 | refine below_set ?_ GE269.out) | exact HB.out)) hb); have n2_ := Aside0.mk (hbox); have n3_ := Aside0.mk ((by rw [hg]; exact (below_size (by repeat (first | (with_reducible first | exact HB.out | apply below_alloc | apply pw_below_drewN | apply below_drew1 | refine below_set ?_ GE269.out) | exact HB.out))) : w.heap.size ≤ gb270)); have n4_ := Aside0.mk ((by rw [hg]; exact (below_size (by repeat (first | (with_reducible first | exact HB.out | apply below_alloc | apply pw_below_drewN | apply below_drew1 | refine below_set ?_ GE269.out) | exact HB.out))) : w.heap.size ≤ gb270)); have n5_ := Aside0.mk ((by rw [hg]; exact Nat.ne_of_lt (blk_lt (g := gb269) (o := .cells #[.int .i64 a0_0, .int .i64 a0_1, .int .i64 a0_2] 23 (0, 0)) (by (with_reducible repeat (first | refine blk_drewN ?_ _ | refine blk_drew ?_ | refine blk_alloc ?_ _)); exact BK269.out)) : gb269 ≠ gb270)); have n6_ := Aside0.mk ((by rw [hg]; exact Nat.ne_of_gt (blk_lt (g := gb269) (o := .cells #[.int .i64 a0_0, .int .i64 a0_1, .int .i64 a0_2] 23 (0, 0)) (by (with_reducible repeat (first | refine blk_drewN ?_ _ | refine blk_drew ?_ | refine blk_alloc ?_ _)); exact BK269.out)) : gb270 ≠ gb269)); clear BK269; clear HB; have BK269 := n0_; have HB := n1_; have BK270 := n2_; have GW270 := n3_; have GE270 := n4_; have NB269_270 := n5_; have NB270_269 := n6_; clear n0_ n1_ n2_ n3_ n4_ n5_ n6_; clear hb hbox hg) | ((with_reducible refine gate_callee (f := 12) rfl ?_); refine goesL_ (some 15) rfl rfl Tryd.func12 (by kernel_rfl) rfl #[] rfl (by (try simp only [List.map_toArray, List.map_cons, List.map_nil]); first | done | rfl | (simp only [List.length_drop, List.length_take]; rfl)) ?_; (with_reducible refine (annexlaw17_known.calls  false _ ?side1 A4.out).mono ?_); (case side1 => exact Tied.below HG.out (by repeat (first | (with_reducible first | exact HB.out | apply below_alloc | apply pw_below_drewN | apply below_drew1 | refine below_set ?_ GE269.out | refine below_set ?_ GE270.out) | exact HB.out))); rintro e w191 ⟨rfl, hb⟩; refine ⟨_, rfl, ?_⟩; have n0_ := Aside0.mk (blk_below (g := gb269) (o := .cells #[.int .i64 a0_0, .int .i64 a0_1, .int .i64 a0_2] 23 (0, 0)) (by (with_reducible repeat (first | refine blk_drewN ?_ _ | refine blk_drew ?_ | refine blk_alloc ?_ _)); exact BK269.out) hb); have n1_ := Aside0.mk (blk_below (g := gb270) (o := .cells #[.int .i64 a1_0, .int .i64 a1_1, .int .i64 a1_2, .int .i64 a1_3, .bool a1_4] 26 (0, 0)) (by (with_reducible repeat (first | refine blk_drewN ?_ _ | refine blk_drew ?_ | refine blk_alloc ?_ _)); exact BK270.out) hb); have n2_ := Aside0.mk (below_step (by repeat (first | (with_reducible first | exact HB.out | apply below_alloc | apply pw_below_drewN | apply below_drew1 | refine below_set ?_ GE269.out | refine below_set ?_ GE270.out) | exact HB.out)) hb); clear BK269; clear BK270; clear HB; have BK269 := n0_; have BK270 := n1_; have HB := n2_; clear n0_ n1_ n2_; (try clear hb); (try clear hb2); (try clear hk); (try clear hi)))
    go_ret
    exact ⟨by first | rfl | (simp [errW_none, errW_some] <;> rfl) | (simp [*, errW_none, errW_some] <;> rfl), by repeat (first | (with_reducible first | exact HB.out | apply below_alloc | apply pw_below_drewN | apply below_drew1 | refine below_set ?_ GE269.out | refine below_set ?_ GE270.out) | exact HB.out)⟩

end Go.Proofs.YtccddkkijhedhaaDoor.PA
