-- Printed by a program of this session over the kit's print (some functions are told by hand). Not trusted: Lean checks it.
import Derived.Test.YtccddkkijhedhaaDoorPAx0
import Derived.Test.YtccddkkijhedhaaDoorPAx3
import Derived.Test.YtccddkkijhedhaaDoorPAx4
import Derived.Test.YtccddkkijhedhaaDoorPAx5
import Derived.Test.YtccddkkijhedhaaDoorPAx7
import Derived.Test.YtccddkkijhedhaaDoorPAx8
import Derived.Test.YtccddkkijhedhaaDoorPAx9
import Derived.Test.YtccddkkijhedhaaDoorPAx11
import Derived.Test.YtccddkkijhedhaaDoorPAx14
import Derived.Test.YtccddkkijhedhaaDoorPAx16
import Derived.Test.YtccddkkijhedhaaDoorPAx17
namespace Go.Proofs.YtccddkkijhedhaaDoor.PA
open Go.RowKit Go.Proofs.YtccddkkijhedhaaDoor Go.Proofs.YtccddkkijhedhaaDoorW.PrintWords Go.Proofs.YtccddkkijhedhaaDoorW.PrintLast Go.Proofs.YtccddkkijhedhaaDoorW.PrintMore
attribute [local go_sem] max2_int min2_int max_two min_two max_three min_three max_four min_four   -- for this text's walks alone
set_option linter.unusedVariables false
set_option linter.unusedSimpArgs false

/-! ### annexlaw17_RtoRuns: function 7 -/
mutual
def annexlaw17_RtoRuns.j0 : Nat → List Int → Bool → Int → Int → Int → Int → Int → Int → Int → Bool → Int → Int → Int → Int → Bool → Option (Bool)
  | 0, _, _, _, _, _, _, _, _, _, _, _, _, _, _, _ => none
  | k + 1, x1, x32, x224000, x224001, x224002, x232000, x232001, x232002, x232003, x232004, x239000, x239001, x239002, x239003, x239004 => if x32 = true then (some false) else (annexlaw17_RtoRuns.l0 k x1 0 x224000 x224001 x224002 x232000 x232001 x232002 x232003 x232004 x239000 x239001 x239002 x239003 x239004)
def annexlaw17_RtoRuns.l0 : Nat → List Int → Int → Int → Int → Int → Int → Int → Int → Int → Bool → Int → Int → Int → Int → Bool → Option (Bool)
  | 0, _, _, _, _, _, _, _, _, _, _, _, _, _, _, _ => none
  | k + 1, x1, x10, x224000, x224001, x224002, x232000, x232001, x232002, x232003, x232004, x239000, x239001, x239002, x239003, x239004 => if x10 < (x1.length : Int) then (if 0 ≤ x10 then (if (rd x1 x10) < 0 then ((rto_Expire.f x224000 x224001 x224002 x232000 x232001 x232002 x232003 x232004).bind fun bt241 => ((annexref17_Expire.f k x224000 x224001 x224002 x239000 x239001 x239002 x239003 x239004).bind fun bt246 => (annexlaw17_RtoRuns.j2 k x1 x10 x224000 x224001 x224002 bt241.1 bt241.2.1 bt241.2.2.1 bt241.2.2.2.1 bt241.2.2.2.2 bt246.1 bt246.2.1 bt246.2.2.1 bt246.2.2.2.1 bt246.2.2.2.2))) else ((rto_Sample.f x224000 x224001 x224002 x232000 x232001 x232002 x232003 x232004 (rd x1 x10)).bind fun bt252 => ((annexref17_Sample.f k x224000 x224001 x224002 x239000 x239001 x239002 x239003 x239004 (rd x1 x10)).bind fun bt258 => (annexlaw17_RtoRuns.j2 k x1 x10 x224000 x224001 x224002 bt252.1 bt252.2.1 bt252.2.2.1 bt252.2.2.2.1 bt252.2.2.2.2 bt258.1 bt258.2.1 bt258.2.2.1 bt258.2.2.2.1 bt258.2.2.2.2)))) else (none)) else (some true)
def annexlaw17_RtoRuns.j2 : Nat → List Int → Int → Int → Int → Int → Int → Int → Int → Int → Bool → Int → Int → Int → Int → Bool → Option (Bool)
  | 0, _, _, _, _, _, _, _, _, _, _, _, _, _, _, _ => none
  | k + 1, x1, x10, x224000, x224001, x224002, x232000, x232001, x232002, x232003, x232004, x239000, x239001, x239002, x239003, x239004 => (annexref_SameEst.f x232000 x232001 x232002 x232003 x232004 x239000 x239001 x239002 x239003 x239004).bind fun t263 => ((rto_Wait.f x224000 x224001 x224002 x232000 x232001 x232002 x232003 x232004).bind fun t264 => ((annexref17_Wait.f k x224000 x224001 x224002 x239000 x239001 x239002 x239003 x239004).bind fun t265 => (if t263 = true then (if t264 = t265 then (annexlaw17_RtoRuns.l0 k x1 (wrap64 (x10 + 1)) x224000 x224001 x224002 x232000 x232001 x232002 x232003 x232004 x239000 x239001 x239002 x239003 x239004) else (some false)) else (some false))))
end
def annexlaw17_RtoRuns.f (k : Nat) (a0_0 : Int) (a0_1 : Int) (a0_2 : Int) (l1 : List Int) : Option (Bool) := (annexlaw17_known.f).bind fun t224 => ((rto_Start.f a0_0 a0_1 a0_2).bind fun bt225 => ((annexref17_Start.f a0_0 a0_1 a0_2).bind fun bt232 => (if t224 = true then ((annexlaw17_num.f bt225.2.2.2.2.2).bind fun t239 => (annexlaw17_RtoRuns.j0 k l1 (t239 != bt232.2.2.2.2.2) a0_0 a0_1 a0_2 bt225.1 bt225.2.1 bt225.2.2.1 bt225.2.2.2.1 bt225.2.2.2.2.1 bt232.1 bt232.2.1 bt232.2.2.1 bt232.2.2.2.1 bt232.2.2.2.2.1)) else (annexlaw17_RtoRuns.j0 k l1 true a0_0 a0_1 a0_2 bt225.1 bt225.2.1 bt225.2.2.1 bt225.2.2.2.1 bt225.2.2.2.2.1 bt232.1 bt232.2.1 bt232.2.2.1 bt232.2.2.2.1 bt232.2.2.2.2.1))))
theorem annexlaw17_RtoRuns.mono_l : ∀ k, (∀ y0 y1 y2 y3 y4 y5 y6 y7 y8 y9 y10 y11 y12 y13 y14, LeO (annexlaw17_RtoRuns.j0 k y0 y1 y2 y3 y4 y5 y6 y7 y8 y9 y10 y11 y12 y13 y14) (annexlaw17_RtoRuns.j0 (k + 1) y0 y1 y2 y3 y4 y5 y6 y7 y8 y9 y10 y11 y12 y13 y14)) ∧ (∀ y0 y1 y2 y3 y4 y5 y6 y7 y8 y9 y10 y11 y12 y13 y14, LeO (annexlaw17_RtoRuns.l0 k y0 y1 y2 y3 y4 y5 y6 y7 y8 y9 y10 y11 y12 y13 y14) (annexlaw17_RtoRuns.l0 (k + 1) y0 y1 y2 y3 y4 y5 y6 y7 y8 y9 y10 y11 y12 y13 y14)) ∧ (∀ y0 y1 y2 y3 y4 y5 y6 y7 y8 y9 y10 y11 y12 y13 y14, LeO (annexlaw17_RtoRuns.j2 k y0 y1 y2 y3 y4 y5 y6 y7 y8 y9 y10 y11 y12 y13 y14) (annexlaw17_RtoRuns.j2 (k + 1) y0 y1 y2 y3 y4 y5 y6 y7 y8 y9 y10 y11 y12 y13 y14))
  | 0 => ⟨fun _ _ _ _ _ _ _ _ _ _ _ _ _ _ _ r h => by simp [annexlaw17_RtoRuns.j0] at h, fun _ _ _ _ _ _ _ _ _ _ _ _ _ _ _ r h => by simp [annexlaw17_RtoRuns.l0] at h, fun _ _ _ _ _ _ _ _ _ _ _ _ _ _ _ r h => by simp [annexlaw17_RtoRuns.j2] at h⟩
  | k + 1 => by
    obtain ⟨ih0, ih1, ih2⟩ := annexlaw17_RtoRuns.mono_l k
    refine ⟨?_, ?_, ?_⟩
    · intro y0 y1 y2 y3 y4 y5 y6 y7 y8 y9 y10 y11 y12 y13 y14
      unfold annexlaw17_RtoRuns.j0
      repeat' first
      | (with_reducible exact ih0 _ _ _ _ _ _ _ _ _ _ _ _ _ _ _)
      | (with_reducible exact ih1 _ _ _ _ _ _ _ _ _ _ _ _ _ _ _)
      | (with_reducible exact ih2 _ _ _ _ _ _ _ _ _ _ _ _ _ _ _)
      | (with_reducible exact annexref17_Expire.mono _ _ _ _ _ _ _ _ _)
      | (with_reducible exact annexref17_Sample.mono _ _ _ _ _ _ _ _ _ _)
      | (with_reducible exact annexref17_Wait.mono _ _ _ _ _ _ _ _ _)
      | (with_reducible exact LeO.refl _)
      | (with_reducible exact LeO.none _)
      | (with_reducible refine LeO.ite ?_ ?_)
      | (with_reducible refine LeO.bind ?_ (fun _ => ?_))
      | exact ih0 _ _ _ _ _ _ _ _ _ _ _ _ _ _ _
      | exact ih1 _ _ _ _ _ _ _ _ _ _ _ _ _ _ _
      | exact ih2 _ _ _ _ _ _ _ _ _ _ _ _ _ _ _
      | exact annexref17_Expire.mono _ _ _ _ _ _ _ _ _
      | exact annexref17_Sample.mono _ _ _ _ _ _ _ _ _ _
      | exact annexref17_Wait.mono _ _ _ _ _ _ _ _ _
      | exact LeO.none _
      | refine LeO.ite ?_ ?_
      | refine LeO.bind ?_ (fun _ => ?_)
    · intro y0 y1 y2 y3 y4 y5 y6 y7 y8 y9 y10 y11 y12 y13 y14
      unfold annexlaw17_RtoRuns.l0
      repeat' first
      | (with_reducible exact ih0 _ _ _ _ _ _ _ _ _ _ _ _ _ _ _)
      | (with_reducible exact ih1 _ _ _ _ _ _ _ _ _ _ _ _ _ _ _)
      | (with_reducible exact ih2 _ _ _ _ _ _ _ _ _ _ _ _ _ _ _)
      | (with_reducible exact annexref17_Expire.mono _ _ _ _ _ _ _ _ _)
      | (with_reducible exact annexref17_Sample.mono _ _ _ _ _ _ _ _ _ _)
      | (with_reducible exact annexref17_Wait.mono _ _ _ _ _ _ _ _ _)
      | (with_reducible exact LeO.refl _)
      | (with_reducible exact LeO.none _)
      | (with_reducible refine LeO.ite ?_ ?_)
      | (with_reducible refine LeO.bind ?_ (fun _ => ?_))
      | exact ih0 _ _ _ _ _ _ _ _ _ _ _ _ _ _ _
      | exact ih1 _ _ _ _ _ _ _ _ _ _ _ _ _ _ _
      | exact ih2 _ _ _ _ _ _ _ _ _ _ _ _ _ _ _
      | exact annexref17_Expire.mono _ _ _ _ _ _ _ _ _
      | exact annexref17_Sample.mono _ _ _ _ _ _ _ _ _ _
      | exact annexref17_Wait.mono _ _ _ _ _ _ _ _ _
      | exact LeO.none _
      | refine LeO.ite ?_ ?_
      | refine LeO.bind ?_ (fun _ => ?_)
    · intro y0 y1 y2 y3 y4 y5 y6 y7 y8 y9 y10 y11 y12 y13 y14
      unfold annexlaw17_RtoRuns.j2
      repeat' first
      | (with_reducible exact ih0 _ _ _ _ _ _ _ _ _ _ _ _ _ _ _)
      | (with_reducible exact ih1 _ _ _ _ _ _ _ _ _ _ _ _ _ _ _)
      | (with_reducible exact ih2 _ _ _ _ _ _ _ _ _ _ _ _ _ _ _)
      | (with_reducible exact annexref17_Expire.mono _ _ _ _ _ _ _ _ _)
      | (with_reducible exact annexref17_Sample.mono _ _ _ _ _ _ _ _ _ _)
      | (with_reducible exact annexref17_Wait.mono _ _ _ _ _ _ _ _ _)
      | (with_reducible exact LeO.refl _)
      | (with_reducible exact LeO.none _)
      | (with_reducible refine LeO.ite ?_ ?_)
      | (with_reducible refine LeO.bind ?_ (fun _ => ?_))
      | exact ih0 _ _ _ _ _ _ _ _ _ _ _ _ _ _ _
      | exact ih1 _ _ _ _ _ _ _ _ _ _ _ _ _ _ _
      | exact ih2 _ _ _ _ _ _ _ _ _ _ _ _ _ _ _
      | exact annexref17_Expire.mono _ _ _ _ _ _ _ _ _
      | exact annexref17_Sample.mono _ _ _ _ _ _ _ _ _ _
      | exact annexref17_Wait.mono _ _ _ _ _ _ _ _ _
      | exact LeO.none _
      | refine LeO.ite ?_ ?_
      | refine LeO.bind ?_ (fun _ => ?_)
theorem annexlaw17_RtoRuns.mono : ∀ a0 a1 a2 a3 k, LeO (annexlaw17_RtoRuns.f k a0 a1 a2 a3) (annexlaw17_RtoRuns.f (k + 1) a0 a1 a2 a3) := by
  intro a0 a1 a2 a3 k
  obtain ⟨ih0, ih1, ih2⟩ := annexlaw17_RtoRuns.mono_l k
  unfold annexlaw17_RtoRuns.f
  repeat' first
      | (with_reducible exact ih0 _ _ _ _ _ _ _ _ _ _ _ _ _ _ _)
      | (with_reducible exact ih1 _ _ _ _ _ _ _ _ _ _ _ _ _ _ _)
      | (with_reducible exact ih2 _ _ _ _ _ _ _ _ _ _ _ _ _ _ _)
      | (with_reducible exact annexref17_Expire.mono _ _ _ _ _ _ _ _ _)
      | (with_reducible exact annexref17_Sample.mono _ _ _ _ _ _ _ _ _ _)
      | (with_reducible exact annexref17_Wait.mono _ _ _ _ _ _ _ _ _)
      | (with_reducible exact LeO.refl _)
      | (with_reducible exact LeO.none _)
      | (with_reducible refine LeO.ite ?_ ?_)
      | (with_reducible refine LeO.bind ?_ (fun _ => ?_))
      | exact ih0 _ _ _ _ _ _ _ _ _ _ _ _ _ _ _
      | exact ih1 _ _ _ _ _ _ _ _ _ _ _ _ _ _ _
      | exact ih2 _ _ _ _ _ _ _ _ _ _ _ _ _ _ _
      | exact annexref17_Expire.mono _ _ _ _ _ _ _ _ _
      | exact annexref17_Sample.mono _ _ _ _ _ _ _ _ _ _
      | exact annexref17_Wait.mono _ _ _ _ _ _ _ _ _
      | exact LeO.none _
      | refine LeO.ite ?_ ?_
      | refine LeO.bind ?_ (fun _ => ?_)
def annexlaw17_RtoRuns.T12 : Bool × List (List Nat × List Nat) := (true, [([], []), ([], []), ([], []), ([], []), ([2, 3], [2, 3]), ([4], [4]), ([0, 1, 5], [0, 1, 5]), ([6, 6, 0, 1, 2, 3, 4, 5, 6], [6])])
def annexlaw17_RtoRuns.B12 : List Nat := [0, 0, 0, 0, 12, 28, 63, 127]
theorem annexlaw17_RtoRuns.tab12 : rtab .any (opsOf Tryd.f7 12) = annexlaw17_RtoRuns.T12 := by kernel_rfl
theorem annexlaw17_RtoRuns.bits12 : waitsOk annexlaw17_RtoRuns.T12.2 annexlaw17_RtoRuns.B12 = true := by kernel_rfl
def annexlaw17_RtoRuns.T13 : Bool × List (List Nat × List Nat) := (true, [([], []), ([], []), ([], []), ([], []), ([2, 3], [2, 3]), ([4], [4]), ([0, 1, 5], [0, 1, 5]), ([6, 6, 0, 1, 2, 3, 4, 5, 6], [6])])
def annexlaw17_RtoRuns.B13 : List Nat := [0, 0, 0, 0, 12, 28, 63, 127]
theorem annexlaw17_RtoRuns.tab13 : rtab .any (opsOf Tryd.f7 13) = annexlaw17_RtoRuns.T13 := by kernel_rfl
theorem annexlaw17_RtoRuns.bits13 : waitsOk annexlaw17_RtoRuns.T13.2 annexlaw17_RtoRuns.B13 = true := by kernel_rfl
set_option maxHeartbeats 8000000 in
set_option maxRecDepth 100000 in
theorem annexlaw17_RtoRuns.calls (k : Nat) (a0_0 : Int) (a0_1 : Int) (a0_2 : Int) (A1 : Option Addr) (c1 : Nat) (l1 : List Int) (r : Bool) (w : World) (hG : Tied w) (hr1 : Kd.C (Kd.int .i64) w A1 l1.length l1) (hc1 : l1.length ≤ c1) (h : annexlaw17_RtoRuns.f k a0_0 a0_1 a0_2 l1 = some r) :
    Calls Tryd.prog 7 #[.agg #[.int .i64 a0_0, .int .i64 a0_1, .int .i64 a0_2], .slice A1 l1.length c1] w fun e w' => e = .returned (.bool r) ∧ Below w.heap.size w w' := by
  have hu23 := Tryd.underlying23
  have hu26 := Tryd.underlying26
  have HG := Aside0.mk hG
  clear hG
  have HR1 := Aside0.mk hr1
  have HC1 := Aside0.mk hc1
  clear hr1 hc1
  have HB := Aside0.mk (Below.refl w.heap.size w)
  have H : ((annexlaw17_known.f).bind fun t224 => ((rto_Start.f a0_0 a0_1 a0_2).bind fun bt225 => ((annexref17_Start.f a0_0 a0_1 a0_2).bind fun bt232 => (if t224 = true then ((annexlaw17_num.f bt225.2.2.2.2.2).bind fun t239 => (annexlaw17_RtoRuns.j0 k l1 (t239 != bt232.2.2.2.2.2) a0_0 a0_1 a0_2 bt225.1 bt225.2.1 bt225.2.2.1 bt225.2.2.2.1 bt225.2.2.2.2.1 bt232.1 bt232.2.1 bt232.2.2.1 bt232.2.2.2.1 bt232.2.2.2.2.1)) else (annexlaw17_RtoRuns.j0 k l1 true a0_0 a0_1 a0_2 bt225.1 bt225.2.1 bt225.2.2.1 bt225.2.2.2.1 bt225.2.2.2.2.1 bt232.1 bt232.2.1 bt232.2.2.1 bt232.2.2.2.1 bt232.2.2.2.2.1))))) = some r := h
  clear h
  replace H := Option.bind_eq_some_iff.mp H
  obtain ⟨t224, A30, H⟩ := H
  replace H : ((rto_Start.f a0_0 a0_1 a0_2).bind fun bt225 => ((annexref17_Start.f a0_0 a0_1 a0_2).bind fun bt232 => (if t224 = true then ((annexlaw17_num.f bt225.2.2.2.2.2).bind fun t239 => (annexlaw17_RtoRuns.j0 k l1 (t239 != bt232.2.2.2.2.2) a0_0 a0_1 a0_2 bt225.1 bt225.2.1 bt225.2.2.1 bt225.2.2.2.1 bt225.2.2.2.2.1 bt232.1 bt232.2.1 bt232.2.2.1 bt232.2.2.2.1 bt232.2.2.2.2.1)) else (annexlaw17_RtoRuns.j0 k l1 true a0_0 a0_1 a0_2 bt225.1 bt225.2.1 bt225.2.2.1 bt225.2.2.2.1 bt225.2.2.2.2.1 bt232.1 bt232.2.1 bt232.2.2.1 bt232.2.2.2.1 bt232.2.2.2.2.1)))) = some r := H
  have A3 := Aside0.mk A30
  clear A30
  replace H := Option.bind_eq_some_iff.mp H
  obtain ⟨⟨t225, t226, t227, t228, t229, t230⟩, A40, H⟩ := H
  replace H : ((annexref17_Start.f a0_0 a0_1 a0_2).bind fun bt232 => (if t224 = true then ((annexlaw17_num.f t230).bind fun t239 => (annexlaw17_RtoRuns.j0 k l1 (t239 != bt232.2.2.2.2.2) a0_0 a0_1 a0_2 t225 t226 t227 t228 t229 bt232.1 bt232.2.1 bt232.2.2.1 bt232.2.2.2.1 bt232.2.2.2.2.1)) else (annexlaw17_RtoRuns.j0 k l1 true a0_0 a0_1 a0_2 t225 t226 t227 t228 t229 bt232.1 bt232.2.1 bt232.2.2.1 bt232.2.2.2.1 bt232.2.2.2.2.1))) = some r := H
  have A4 := Aside0.mk A40
  clear A40
  replace H := Option.bind_eq_some_iff.mp H
  obtain ⟨⟨t232, t233, t234, t235, t236, t237⟩, A50, H⟩ := H
  replace H : (if t224 = true then ((annexlaw17_num.f t230).bind fun t239 => (annexlaw17_RtoRuns.j0 k l1 (t239 != t237) a0_0 a0_1 a0_2 t225 t226 t227 t228 t229 t232 t233 t234 t235 t236)) else (annexlaw17_RtoRuns.j0 k l1 true a0_0 a0_1 a0_2 t225 t226 t227 t228 t229 t232 t233 t234 t235 t236)) = some r := H
  have A5 := Aside0.mk A50
  clear A50
  have HC6 := Aside0.mk H
  clear H
  go_enter Tryd.func7, Tryd.ntmps7
  go_upto_region 4 with (first | ((with_reducible refine gate_dst (N := 2) rfl ?_); refine box_event ?hg (N := 2) ?hd (cs := #[.int .i64 a0_0, .int .i64 a0_1, .int .i64 a0_2]) (t := 23) ?hr ?_; (case hd => rfl); (case hg => rfl); (case hr => first | (go_simp; done) | (go_simp; rfl)); intro gb223 hg w7 hbox hb; have n0_ := Aside0.mk (below_step (by repeat (first | (with_reducible first | exact HB.out | apply below_alloc | apply pw_below_drewN | apply below_drew1) | exact HB.out)) hb); have n1_ := Aside0.mk (hbox); have n2_ := Aside0.mk ((by rw [hg]; exact (below_size (by repeat (first | (with_reducible first | exact HB.out | apply below_alloc | apply pw_below_drewN | apply below_drew1) | exact HB.out))) : w.heap.size ≤ gb223)); have n3_ := Aside0.mk ((by rw [hg]; exact (below_size (by repeat (first | (with_reducible first | exact HB.out | apply below_alloc | apply pw_below_drewN | apply below_drew1) | exact HB.out))) : w.heap.size ≤ gb223)); clear HB; have HB := n0_; have BK223 := n1_; have GW223 := n2_; have GE223 := n3_; clear n0_ n1_ n2_ n3_; clear hb hbox hg) | ((with_reducible refine gate_callee (f := 12) rfl ?_); refine goesL_ (some 14) rfl rfl Tryd.func12 (by kernel_rfl) rfl #[] rfl (by (try simp only [List.map_toArray, List.map_cons, List.map_nil]); first | done | rfl | (simp only [List.length_drop, List.length_take]; rfl)) ?_; (with_reducible refine (annexlaw17_known.calls  t224 _ ?side1 A3.out).mono ?_); (case side1 => exact Tied.below HG.out (by repeat (first | (with_reducible first | exact HB.out | apply below_alloc | apply pw_below_drewN | apply below_drew1 | refine below_set ?_ GE223.out) | exact HB.out))); rintro e w8 ⟨rfl, hb⟩; refine ⟨_, rfl, ?_⟩; have n0_ := Aside0.mk (blk_below (g := gb223) (o := .cells #[.int .i64 a0_0, .int .i64 a0_1, .int .i64 a0_2] 23 (0, 0)) (by (with_reducible repeat (first | refine blk_drewN ?_ _ | refine blk_drew ?_ | refine blk_alloc ?_ _)); exact BK223.out) hb); have n1_ := Aside0.mk (below_step (by repeat (first | (with_reducible first | exact HB.out | apply below_alloc | apply pw_below_drewN | apply below_drew1 | refine below_set ?_ GE223.out) | exact HB.out)) hb); clear BK223; clear HB; have BK223 := n0_; have HB := n1_; clear n0_ n1_; (try clear hb); (try clear hb2); (try clear hk); (try clear hi); have hcz9_0 : w8.cell? ⟨gb223, 0, none⟩ = some (.int .i64 a0_0) := (blk_cell BK223.out 0).trans rfl; have hcz9_1 : w8.cell? ⟨gb223, 1, none⟩ = some (.int .i64 a0_1) := (blk_cell BK223.out 1).trans rfl; have hcz9_2 : w8.cell? ⟨gb223, 2, none⟩ = some (.int .i64 a0_2) := (blk_cell BK223.out 2).trans rfl; have hfz9_0 := blk_frozen BK223.out 0; have hfz9_1 := blk_frozen BK223.out 1; have hfz9_2 := blk_frozen BK223.out 2) | ((with_reducible refine gate_callee (f := 13) rfl ?_); refine goesL_ (some 17) rfl rfl Tryd.func13 (by kernel_rfl) rfl #[.agg #[.int .i64 a0_0, .int .i64 a0_1, .int .i64 a0_2]] rfl (by (try simp only [List.map_toArray, List.map_cons, List.map_nil]); first | done | rfl | (simp only [List.length_drop, List.length_take]; rfl)) ?_; (with_reducible refine (rto_Start.calls a0_0 a0_1 a0_2 t225 t226 t227 t228 t229 t230 _ ?side1 A4.out).mono ?_); (case side1 => exact Tied.below HG.out (by repeat (first | (with_reducible first | exact HB.out | apply below_alloc | apply pw_below_drewN | apply below_drew1 | refine below_set ?_ GE223.out) | exact HB.out))); rintro e w10 ⟨rfl, hb⟩; refine ⟨_, rfl, ?_⟩; have n0_ := Aside0.mk (blk_below (g := gb223) (o := .cells #[.int .i64 a0_0, .int .i64 a0_1, .int .i64 a0_2] 23 (0, 0)) (by (with_reducible repeat (first | refine blk_drewN ?_ _ | refine blk_drew ?_ | refine blk_alloc ?_ _)); exact BK223.out) hb); have n1_ := Aside0.mk (below_step (by repeat (first | (with_reducible first | exact HB.out | apply below_alloc | apply pw_below_drewN | apply below_drew1 | refine below_set ?_ GE223.out) | exact HB.out)) hb); clear BK223; clear HB; have BK223 := n0_; have HB := n1_; clear n0_ n1_; (try clear hb); (try clear hb2); (try clear hk); (try clear hi)) | ((with_reducible refine gate_dst (N := 6) rfl ?_); refine box_event ?hg (N := 6) ?hd (cs := #[.int .i64 0, .int .i64 0, .int .i64 0, .int .i64 0, .bool false]) (t := 26) ?hr ?_; (case hd => rfl); (case hg => rfl); (case hr => first | (go_simp; done) | (go_simp; rfl)); intro gb231 hg w11 hbox hb; have n0_ := Aside0.mk (blk_below (g := gb223) (o := .cells #[.int .i64 a0_0, .int .i64 a0_1, .int .i64 a0_2] 23 (0, 0)) (by (with_reducible repeat (first | refine blk_drewN ?_ _ | refine blk_drew ?_ | refine blk_alloc ?_ _)); exact BK223.out) hb); have n1_ := Aside0.mk (below_step (by repeat (first | (with_reducible first | exact HB.out | apply below_alloc | apply pw_below_drewN | apply below_drew1 | refine below_set ?_ GE223.out) | exact HB.out)) hb); have n2_ := Aside0.mk (hbox); have n3_ := Aside0.mk ((by rw [hg]; exact (below_size (by repeat (first | (with_reducible first | exact HB.out | apply below_alloc | apply pw_below_drewN | apply below_drew1 | refine below_set ?_ GE223.out) | exact HB.out))) : w.heap.size ≤ gb231)); have n4_ := Aside0.mk ((by rw [hg]; exact (below_size (by repeat (first | (with_reducible first | exact HB.out | apply below_alloc | apply pw_below_drewN | apply below_drew1 | refine below_set ?_ GE223.out) | exact HB.out))) : w.heap.size ≤ gb231)); have n5_ := Aside0.mk ((by rw [hg]; exact Nat.ne_of_lt (blk_lt (g := gb223) (o := .cells #[.int .i64 a0_0, .int .i64 a0_1, .int .i64 a0_2] 23 (0, 0)) (by (with_reducible repeat (first | refine blk_drewN ?_ _ | refine blk_drew ?_ | refine blk_alloc ?_ _)); exact BK223.out)) : gb223 ≠ gb231)); have n6_ := Aside0.mk ((by rw [hg]; exact Nat.ne_of_gt (blk_lt (g := gb223) (o := .cells #[.int .i64 a0_0, .int .i64 a0_1, .int .i64 a0_2] 23 (0, 0)) (by (with_reducible repeat (first | refine blk_drewN ?_ _ | refine blk_drew ?_ | refine blk_alloc ?_ _)); exact BK223.out)) : gb231 ≠ gb223)); clear BK223; clear HB; have BK223 := n0_; have HB := n1_; have BK231 := n2_; have GW231 := n3_; have GE231 := n4_; have NB223_231 := n5_; have NB231_223 := n6_; clear n0_ n1_ n2_ n3_ n4_ n5_ n6_; clear hb hbox hg; have hnb12 := NB231_223.out; have hnc12 := NB223_231.out; have hcz13_0 : w11.cell? ⟨gb231, 0, none⟩ = some (.int .i64 0) := (blk_cell BK231.out 0).trans rfl; have hcz13_1 : w11.cell? ⟨gb231, 1, none⟩ = some (.int .i64 0) := (blk_cell BK231.out 1).trans rfl; have hcz13_2 : w11.cell? ⟨gb231, 2, none⟩ = some (.int .i64 0) := (blk_cell BK231.out 2).trans rfl; have hcz13_3 : w11.cell? ⟨gb231, 3, none⟩ = some (.int .i64 0) := (blk_cell BK231.out 3).trans rfl; have hcz13_4 : w11.cell? ⟨gb231, 4, none⟩ = some (.bool false) := (blk_cell BK231.out 4).trans rfl; have hfz13_0 := blk_frozen BK231.out 0; have hfz13_1 := blk_frozen BK231.out 1; have hfz13_2 := blk_frozen BK231.out 2; have hfz13_3 := blk_frozen BK231.out 3; have hfz13_4 := blk_frozen BK231.out 4; have hcz14_0 : w11.cell? ⟨gb223, 0, none⟩ = some (.int .i64 a0_0) := (blk_cell BK223.out 0).trans rfl; have hcz14_1 : w11.cell? ⟨gb223, 1, none⟩ = some (.int .i64 a0_1) := (blk_cell BK223.out 1).trans rfl; have hcz14_2 : w11.cell? ⟨gb223, 2, none⟩ = some (.int .i64 a0_2) := (blk_cell BK223.out 2).trans rfl; have hfz14_0 := blk_frozen BK223.out 0; have hfz14_1 := blk_frozen BK223.out 1; have hfz14_2 := blk_frozen BK223.out 2) | ((with_reducible refine gate_callee (f := 14) rfl ?_); refine goesL_ (some 22) rfl rfl Tryd.func14 (by kernel_rfl) rfl #[.agg #[.int .i64 a0_0, .int .i64 a0_1, .int .i64 a0_2]] rfl (by (try simp only [List.map_toArray, List.map_cons, List.map_nil]); first | done | rfl | (simp only [List.length_drop, List.length_take]; rfl)) ?_; (with_reducible refine (annexref17_Start.calls a0_0 a0_1 a0_2 t232 t233 t234 t235 t236 t237 _ A5.out).mono ?_); rintro e w15 ⟨rfl, hb⟩; refine ⟨_, rfl, ?_⟩; have n0_ := Aside0.mk (blk_below (g := gb223) (o := .cells #[.int .i64 a0_0, .int .i64 a0_1, .int .i64 a0_2] 23 (0, 0)) (by (with_reducible repeat (first | refine blk_drewN ?_ _ | refine blk_drew ?_ | refine blk_alloc ?_ _)); refine blk_far ?_ NB223_231.out _; (with_reducible repeat (first | refine blk_drewN ?_ _ | refine blk_drew ?_ | refine blk_alloc ?_ _)); refine blk_far ?_ NB223_231.out _; (with_reducible repeat (first | refine blk_drewN ?_ _ | refine blk_drew ?_ | refine blk_alloc ?_ _)); refine blk_far ?_ NB223_231.out _; (with_reducible repeat (first | refine blk_drewN ?_ _ | refine blk_drew ?_ | refine blk_alloc ?_ _)); refine blk_far ?_ NB223_231.out _; (with_reducible repeat (first | refine blk_drewN ?_ _ | refine blk_drew ?_ | refine blk_alloc ?_ _)); refine blk_far ?_ NB223_231.out _; (with_reducible repeat (first | refine blk_drewN ?_ _ | refine blk_drew ?_ | refine blk_alloc ?_ _)); exact BK223.out) hb); have n1_ := Aside0.mk (blk_below (g := gb231) (o := .cells #[.int .i64 t225, .int .i64 t226, .int .i64 t227, .int .i64 t228, .bool t229] 26 (0, 0)) (by (with_reducible repeat (first | refine blk_drewN ?_ _ | refine blk_drew ?_ | refine blk_alloc ?_ _)); refine blk_put (cs := #[.int .i64 t225, .int .i64 t226, .int .i64 t227, .int .i64 t228, .bool false]) ?_ 4 _ rfl; (with_reducible repeat (first | refine blk_drewN ?_ _ | refine blk_drew ?_ | refine blk_alloc ?_ _)); refine blk_put (cs := #[.int .i64 t225, .int .i64 t226, .int .i64 t227, .int .i64 0, .bool false]) ?_ 3 _ rfl; (with_reducible repeat (first | refine blk_drewN ?_ _ | refine blk_drew ?_ | refine blk_alloc ?_ _)); refine blk_put (cs := #[.int .i64 t225, .int .i64 t226, .int .i64 0, .int .i64 0, .bool false]) ?_ 2 _ rfl; (with_reducible repeat (first | refine blk_drewN ?_ _ | refine blk_drew ?_ | refine blk_alloc ?_ _)); refine blk_put (cs := #[.int .i64 t225, .int .i64 0, .int .i64 0, .int .i64 0, .bool false]) ?_ 1 _ rfl; (with_reducible repeat (first | refine blk_drewN ?_ _ | refine blk_drew ?_ | refine blk_alloc ?_ _)); refine blk_put (cs := #[.int .i64 0, .int .i64 0, .int .i64 0, .int .i64 0, .bool false]) ?_ 0 _ rfl; (with_reducible repeat (first | refine blk_drewN ?_ _ | refine blk_drew ?_ | refine blk_alloc ?_ _)); exact BK231.out) hb); have n2_ := Aside0.mk (below_step (by repeat (first | (with_reducible first | exact HB.out | apply below_alloc | apply pw_below_drewN | apply below_drew1 | refine below_set ?_ GE223.out | refine below_set ?_ GE231.out) | exact HB.out)) hb); clear BK223; clear BK231; clear HB; have BK223 := n0_; have BK231 := n1_; have HB := n2_; clear n0_ n1_ n2_; (try clear hb); (try clear hb2); (try clear hk); (try clear hi)) | ((with_reducible refine gate_dst (N := 8) rfl ?_); refine box_event ?hg (N := 8) ?hd (cs := #[.int .i64 0, .int .i64 0, .int .i64 0, .int .i64 0, .bool false]) (t := 26) ?hr ?_; (case hd => rfl); (case hg => rfl); (case hr => first | (go_simp; done) | (go_simp; rfl)); intro gb238 hg w16 hbox hb; have n0_ := Aside0.mk (blk_below (g := gb223) (o := .cells #[.int .i64 a0_0, .int .i64 a0_1, .int .i64 a0_2] 23 (0, 0)) (by (with_reducible repeat (first | refine blk_drewN ?_ _ | refine blk_drew ?_ | refine blk_alloc ?_ _)); exact BK223.out) hb); have n1_ := Aside0.mk (blk_below (g := gb231) (o := .cells #[.int .i64 t225, .int .i64 t226, .int .i64 t227, .int .i64 t228, .bool t229] 26 (0, 0)) (by (with_reducible repeat (first | refine blk_drewN ?_ _ | refine blk_drew ?_ | refine blk_alloc ?_ _)); exact BK231.out) hb); have n2_ := Aside0.mk (below_step (by repeat (first | (with_reducible first | exact HB.out | apply below_alloc | apply pw_below_drewN | apply below_drew1 | refine below_set ?_ GE223.out | refine below_set ?_ GE231.out) | exact HB.out)) hb); have n3_ := Aside0.mk (hbox); have n4_ := Aside0.mk ((by rw [hg]; exact (below_size (by repeat (first | (with_reducible first | exact HB.out | apply below_alloc | apply pw_below_drewN | apply below_drew1 | refine below_set ?_ GE223.out | refine below_set ?_ GE231.out) | exact HB.out))) : w.heap.size ≤ gb238)); have n5_ := Aside0.mk ((by rw [hg]; exact (below_size (by repeat (first | (with_reducible first | exact HB.out | apply below_alloc | apply pw_below_drewN | apply below_drew1 | refine below_set ?_ GE223.out | refine below_set ?_ GE231.out) | exact HB.out))) : w.heap.size ≤ gb238)); have n6_ := Aside0.mk ((by rw [hg]; exact Nat.ne_of_lt (blk_lt (g := gb223) (o := .cells #[.int .i64 a0_0, .int .i64 a0_1, .int .i64 a0_2] 23 (0, 0)) (by (with_reducible repeat (first | refine blk_drewN ?_ _ | refine blk_drew ?_ | refine blk_alloc ?_ _)); exact BK223.out)) : gb223 ≠ gb238)); have n7_ := Aside0.mk ((by rw [hg]; exact Nat.ne_of_gt (blk_lt (g := gb223) (o := .cells #[.int .i64 a0_0, .int .i64 a0_1, .int .i64 a0_2] 23 (0, 0)) (by (with_reducible repeat (first | refine blk_drewN ?_ _ | refine blk_drew ?_ | refine blk_alloc ?_ _)); exact BK223.out)) : gb238 ≠ gb223)); have n8_ := Aside0.mk ((by rw [hg]; exact Nat.ne_of_lt (blk_lt (g := gb231) (o := .cells #[.int .i64 t225, .int .i64 t226, .int .i64 t227, .int .i64 t228, .bool t229] 26 (0, 0)) (by (with_reducible repeat (first | refine blk_drewN ?_ _ | refine blk_drew ?_ | refine blk_alloc ?_ _)); exact BK231.out)) : gb231 ≠ gb238)); have n9_ := Aside0.mk ((by rw [hg]; exact Nat.ne_of_gt (blk_lt (g := gb231) (o := .cells #[.int .i64 t225, .int .i64 t226, .int .i64 t227, .int .i64 t228, .bool t229] 26 (0, 0)) (by (with_reducible repeat (first | refine blk_drewN ?_ _ | refine blk_drew ?_ | refine blk_alloc ?_ _)); exact BK231.out)) : gb238 ≠ gb231)); clear BK223; clear BK231; clear HB; have BK223 := n0_; have BK231 := n1_; have HB := n2_; have BK238 := n3_; have GW238 := n4_; have GE238 := n5_; have NB223_238 := n6_; have NB238_223 := n7_; have NB231_238 := n8_; have NB238_231 := n9_; clear n0_ n1_ n2_ n3_ n4_ n5_ n6_ n7_ n8_ n9_; clear hb hbox hg; have hnb17 := NB238_223.out; have hnc17 := NB223_238.out; have hnb18 := NB238_231.out; have hnc18 := NB231_238.out; have hcz19_0 : w16.cell? ⟨gb238, 0, none⟩ = some (.int .i64 0) := (blk_cell BK238.out 0).trans rfl; have hcz19_1 : w16.cell? ⟨gb238, 1, none⟩ = some (.int .i64 0) := (blk_cell BK238.out 1).trans rfl; have hcz19_2 : w16.cell? ⟨gb238, 2, none⟩ = some (.int .i64 0) := (blk_cell BK238.out 2).trans rfl; have hcz19_3 : w16.cell? ⟨gb238, 3, none⟩ = some (.int .i64 0) := (blk_cell BK238.out 3).trans rfl; have hcz19_4 : w16.cell? ⟨gb238, 4, none⟩ = some (.bool false) := (blk_cell BK238.out 4).trans rfl; have hfz19_0 := blk_frozen BK238.out 0; have hfz19_1 := blk_frozen BK238.out 1; have hfz19_2 := blk_frozen BK238.out 2; have hfz19_3 := blk_frozen BK238.out 3; have hfz19_4 := blk_frozen BK238.out 4))
  (try simp only [Act.put, List.setIfInBounds_toArray, List.set_cons_zero, List.set_cons_succ])
  go_cut [32] (fun v32 wc => ∃ (kq : Nat) (x32_5 : Bool), v32 = .bool x32_5 ∧ Aside0 (annexlaw17_RtoRuns.j0 kq l1 x32_5 a0_0 a0_1 a0_2 t225 t226 t227 t228 t229 t232 t233 t234 t235 t236 = some r) ∧ Aside0 (kq ≤ k) ∧ Aside0 (wc.heap[gb223]? = some (.cells #[.int .i64 a0_0, .int .i64 a0_1, .int .i64 a0_2] 23 (0, 0))) ∧ Aside0 (wc.heap[gb231]? = some (.cells #[.int .i64 t225, .int .i64 t226, .int .i64 t227, .int .i64 t228, .bool t229] 26 (0, 0))) ∧ Aside0 (wc.heap[gb238]? = some (.cells #[.int .i64 t232, .int .i64 t233, .int .i64 t234, .int .i64 t235, .bool t236] 26 (0, 0))) ∧ Aside0 (Below w.heap.size w wc))
  case first =>
    have H := HC6.out
    clear HC6
    by_cases c20 : t224 = true
    · subst c20
      have H1 : ((annexlaw17_num.f t230).bind fun t239 => (annexlaw17_RtoRuns.j0 k l1 (t239 != t237) a0_0 a0_1 a0_2 t225 t226 t227 t228 t229 t232 t233 t234 t235 t236)) = some r := by rw [if_pos rfl] at H; exact H
      clear H
      have H := H1
      clear H1
      replace H := Option.bind_eq_some_iff.mp H
      obtain ⟨t239, A210, H⟩ := H
      replace H : (annexlaw17_RtoRuns.j0 k l1 (t239 != t237) a0_0 a0_1 a0_2 t225 t226 t227 t228 t229 t232 t233 t234 t235 t236) = some r := H
      have A21 := Aside0.mk A210
      clear A210
      have H' := Aside0.mk H
      clear H
      go_wp2_with (first | (go_at_call 16; (with_reducible refine (annexlaw17_num.calls t230 t239 _ A21.out).mono ?_); rintro e w' ⟨rfl, ⟨nd, rfl⟩⟩))
      go_meet
      case rel => exact ⟨_, ((t239 != t237)), (by first | rfl | (simp; done) | (simp [*]; done)), H', ⟨by first | omega | exact Nat.le_refl _⟩, ⟨by (with_reducible repeat (first | refine blk_drewN ?_ _ | refine blk_drew ?_ | refine blk_alloc ?_ _)); refine blk_far ?_ NB223_238.out _; (with_reducible repeat (first | refine blk_drewN ?_ _ | refine blk_drew ?_ | refine blk_alloc ?_ _)); refine blk_far ?_ NB223_238.out _; (with_reducible repeat (first | refine blk_drewN ?_ _ | refine blk_drew ?_ | refine blk_alloc ?_ _)); refine blk_far ?_ NB223_238.out _; (with_reducible repeat (first | refine blk_drewN ?_ _ | refine blk_drew ?_ | refine blk_alloc ?_ _)); refine blk_far ?_ NB223_238.out _; (with_reducible repeat (first | refine blk_drewN ?_ _ | refine blk_drew ?_ | refine blk_alloc ?_ _)); refine blk_far ?_ NB223_238.out _; (with_reducible repeat (first | refine blk_drewN ?_ _ | refine blk_drew ?_ | refine blk_alloc ?_ _)); exact BK223.out⟩, ⟨by (with_reducible repeat (first | refine blk_drewN ?_ _ | refine blk_drew ?_ | refine blk_alloc ?_ _)); refine blk_far ?_ NB231_238.out _; (with_reducible repeat (first | refine blk_drewN ?_ _ | refine blk_drew ?_ | refine blk_alloc ?_ _)); refine blk_far ?_ NB231_238.out _; (with_reducible repeat (first | refine blk_drewN ?_ _ | refine blk_drew ?_ | refine blk_alloc ?_ _)); refine blk_far ?_ NB231_238.out _; (with_reducible repeat (first | refine blk_drewN ?_ _ | refine blk_drew ?_ | refine blk_alloc ?_ _)); refine blk_far ?_ NB231_238.out _; (with_reducible repeat (first | refine blk_drewN ?_ _ | refine blk_drew ?_ | refine blk_alloc ?_ _)); refine blk_far ?_ NB231_238.out _; (with_reducible repeat (first | refine blk_drewN ?_ _ | refine blk_drew ?_ | refine blk_alloc ?_ _)); exact BK231.out⟩, ⟨by (with_reducible repeat (first | refine blk_drewN ?_ _ | refine blk_drew ?_ | refine blk_alloc ?_ _)); refine blk_put (cs := #[.int .i64 t232, .int .i64 t233, .int .i64 t234, .int .i64 t235, .bool false]) ?_ 4 _ rfl; (with_reducible repeat (first | refine blk_drewN ?_ _ | refine blk_drew ?_ | refine blk_alloc ?_ _)); refine blk_put (cs := #[.int .i64 t232, .int .i64 t233, .int .i64 t234, .int .i64 0, .bool false]) ?_ 3 _ rfl; (with_reducible repeat (first | refine blk_drewN ?_ _ | refine blk_drew ?_ | refine blk_alloc ?_ _)); refine blk_put (cs := #[.int .i64 t232, .int .i64 t233, .int .i64 0, .int .i64 0, .bool false]) ?_ 2 _ rfl; (with_reducible repeat (first | refine blk_drewN ?_ _ | refine blk_drew ?_ | refine blk_alloc ?_ _)); refine blk_put (cs := #[.int .i64 t232, .int .i64 0, .int .i64 0, .int .i64 0, .bool false]) ?_ 1 _ rfl; (with_reducible repeat (first | refine blk_drewN ?_ _ | refine blk_drew ?_ | refine blk_alloc ?_ _)); refine blk_put (cs := #[.int .i64 0, .int .i64 0, .int .i64 0, .int .i64 0, .bool false]) ?_ 0 _ rfl; (with_reducible repeat (first | refine blk_drewN ?_ _ | refine blk_drew ?_ | refine blk_alloc ?_ _)); exact BK238.out⟩, ⟨by repeat (first | (with_reducible first | exact HB.out | apply below_alloc | apply pw_below_drewN | apply below_drew1 | refine below_set ?_ GE223.out | refine below_set ?_ GE231.out | refine below_set ?_ GE238.out) | exact HB.out)⟩⟩
    · replace c20 := Bool.eq_false_iff.mpr c20
      subst c20
      have H1 : (annexlaw17_RtoRuns.j0 k l1 true a0_0 a0_1 a0_2 t225 t226 t227 t228 t229 t232 t233 t234 t235 t236) = some r := by rw [if_neg (show ¬ (false = true) by decide)] at H; exact H
      clear H
      have H := H1
      clear H1
      have H' := Aside0.mk H
      clear H
      go_wp2
      go_meet
      case rel => exact ⟨_, (true), (by first | rfl | (simp; done) | (simp [*]; done)), H', ⟨by first | omega | exact Nat.le_refl _⟩, ⟨by (with_reducible repeat (first | refine blk_drewN ?_ _ | refine blk_drew ?_ | refine blk_alloc ?_ _)); refine blk_far ?_ NB223_238.out _; (with_reducible repeat (first | refine blk_drewN ?_ _ | refine blk_drew ?_ | refine blk_alloc ?_ _)); refine blk_far ?_ NB223_238.out _; (with_reducible repeat (first | refine blk_drewN ?_ _ | refine blk_drew ?_ | refine blk_alloc ?_ _)); refine blk_far ?_ NB223_238.out _; (with_reducible repeat (first | refine blk_drewN ?_ _ | refine blk_drew ?_ | refine blk_alloc ?_ _)); refine blk_far ?_ NB223_238.out _; (with_reducible repeat (first | refine blk_drewN ?_ _ | refine blk_drew ?_ | refine blk_alloc ?_ _)); refine blk_far ?_ NB223_238.out _; (with_reducible repeat (first | refine blk_drewN ?_ _ | refine blk_drew ?_ | refine blk_alloc ?_ _)); exact BK223.out⟩, ⟨by (with_reducible repeat (first | refine blk_drewN ?_ _ | refine blk_drew ?_ | refine blk_alloc ?_ _)); refine blk_far ?_ NB231_238.out _; (with_reducible repeat (first | refine blk_drewN ?_ _ | refine blk_drew ?_ | refine blk_alloc ?_ _)); refine blk_far ?_ NB231_238.out _; (with_reducible repeat (first | refine blk_drewN ?_ _ | refine blk_drew ?_ | refine blk_alloc ?_ _)); refine blk_far ?_ NB231_238.out _; (with_reducible repeat (first | refine blk_drewN ?_ _ | refine blk_drew ?_ | refine blk_alloc ?_ _)); refine blk_far ?_ NB231_238.out _; (with_reducible repeat (first | refine blk_drewN ?_ _ | refine blk_drew ?_ | refine blk_alloc ?_ _)); refine blk_far ?_ NB231_238.out _; (with_reducible repeat (first | refine blk_drewN ?_ _ | refine blk_drew ?_ | refine blk_alloc ?_ _)); exact BK231.out⟩, ⟨by (with_reducible repeat (first | refine blk_drewN ?_ _ | refine blk_drew ?_ | refine blk_alloc ?_ _)); refine blk_put (cs := #[.int .i64 t232, .int .i64 t233, .int .i64 t234, .int .i64 t235, .bool false]) ?_ 4 _ rfl; (with_reducible repeat (first | refine blk_drewN ?_ _ | refine blk_drew ?_ | refine blk_alloc ?_ _)); refine blk_put (cs := #[.int .i64 t232, .int .i64 t233, .int .i64 t234, .int .i64 0, .bool false]) ?_ 3 _ rfl; (with_reducible repeat (first | refine blk_drewN ?_ _ | refine blk_drew ?_ | refine blk_alloc ?_ _)); refine blk_put (cs := #[.int .i64 t232, .int .i64 t233, .int .i64 0, .int .i64 0, .bool false]) ?_ 2 _ rfl; (with_reducible repeat (first | refine blk_drewN ?_ _ | refine blk_drew ?_ | refine blk_alloc ?_ _)); refine blk_put (cs := #[.int .i64 t232, .int .i64 0, .int .i64 0, .int .i64 0, .bool false]) ?_ 1 _ rfl; (with_reducible repeat (first | refine blk_drewN ?_ _ | refine blk_drew ?_ | refine blk_alloc ?_ _)); refine blk_put (cs := #[.int .i64 0, .int .i64 0, .int .i64 0, .int .i64 0, .bool false]) ?_ 0 _ rfl; (with_reducible repeat (first | refine blk_drewN ?_ _ | refine blk_drew ?_ | refine blk_alloc ?_ _)); exact BK238.out⟩, ⟨by repeat (first | (with_reducible first | exact HB.out | apply below_alloc | apply pw_below_drewN | apply below_drew1 | refine below_set ?_ GE223.out | refine below_set ?_ GE231.out | refine below_set ?_ GE238.out) | exact HB.out)⟩⟩
  case rest =>
    clear HC6
    try clear c1
    try clear c2
    try clear p2
    try clear c7
    try clear c12
    try clear c13
    try clear c14
    try clear c17
    try clear c18
    try clear c20
    try clear hcz13_0
    try clear hcz13_1
    try clear hcz13_2
    try clear hcz13_3
    try clear hcz13_4
    try clear hcz14_0
    try clear hcz14_1
    try clear hcz14_2
    try clear hcz19_0
    try clear hcz19_1
    try clear hcz19_2
    try clear hcz19_3
    try clear hcz19_4
    try clear hcz9_0
    try clear hcz9_1
    try clear hcz9_2
    try clear hfz13_0
    try clear hfz13_1
    try clear hfz13_2
    try clear hfz13_3
    try clear hfz13_4
    try clear hfz14_0
    try clear hfz14_1
    try clear hfz14_2
    try clear hfz19_0
    try clear hfz19_1
    try clear hfz19_2
    try clear hfz19_3
    try clear hfz19_4
    try clear hfz9_0
    try clear hfz9_1
    try clear hfz9_2
    obtain ⟨kq, x32_5, rfl, HA, HJ5, BK223, BK231, BK238, HB⟩ := hcut
    cases kq with
    | zero => exact absurd HA.out (by simp [annexlaw17_RtoRuns.j0])
    | succ kj5 =>
      have H := HA.out
      clear HA
      simp only [annexlaw17_RtoRuns.j0] at H
      by_cases c22 : x32_5 = true
      · subst c22
        have H1 : (some false) = some r := by rw [if_pos rfl] at H; exact H
        clear H
        have H := H1
        clear H1
        obtain rfl := Option.some.inj H
        go_wp2
        go_ret
        exact ⟨by first | rfl | (simp [errW_none, errW_some] <;> rfl) | (simp [*, errW_none, errW_some] <;> rfl), by repeat (first | (with_reducible first | exact HB.out | apply below_alloc | apply pw_below_drewN | apply below_drew1 | refine below_set ?_ GE223.out | refine below_set ?_ GE231.out | refine below_set ?_ GE238.out) | exact HB.out)⟩
      · replace c22 := Bool.eq_false_iff.mpr c22
        subst c22
        have H1 : (annexlaw17_RtoRuns.l0 kj5 l1 0 a0_0 a0_1 a0_2 t225 t226 t227 t228 t229 t232 t233 t234 t235 t236) = some r := by rw [if_neg (show ¬ (false = true) by decide)] at H; exact H
        clear H
        have H := H1
        clear H1
        have H' := Aside0.mk H
        clear H
        go_wp2
        go_loopg [10] kj5 (fun kq v10 w' => ∃ (x10_2 : Int) (x232000_2 : Int) (x232001_2 : Int) (x232002_2 : Int) (x232003_2 : Int) (x232004_2 : Bool) (x239000_2 : Int) (x239001_2 : Int) (x239002_2 : Int) (x239003_2 : Int) (x239004_2 : Bool), v10 = .int .i64 x10_2 ∧ Aside0 (annexlaw17_RtoRuns.l0 kq l1 x10_2 a0_0 a0_1 a0_2 x232000_2 x232001_2 x232002_2 x232003_2 x232004_2 x239000_2 x239001_2 x239002_2 x239003_2 x239004_2 = some r) ∧ Aside0 (kq ≤ kj5) ∧ Aside0 (w'.heap[gb223]? = some (.cells #[.int .i64 a0_0, .int .i64 a0_1, .int .i64 a0_2] 23 (0, 0))) ∧ Aside0 (w'.heap[gb231]? = some (.cells #[.int .i64 x232000_2, .int .i64 x232001_2, .int .i64 x232002_2, .int .i64 x232003_2, .bool x232004_2] 26 (0, 0))) ∧ Aside0 (w'.heap[gb238]? = some (.cells #[.int .i64 x239000_2, .int .i64 x239001_2, .int .i64 x239002_2, .int .i64 x239003_2, .bool x239004_2] 26 (0, 0))) ∧ Aside0 (Below w.heap.size w w'))
        case atStart => exact ⟨(0), (t225), (t226), (t227), (t228), (t229), (t232), (t233), (t234), (t235), (t236), (by first | rfl | (simp; done) | (simp [*]; done)), H', ⟨Nat.le_refl _⟩, ⟨by (with_reducible repeat (first | refine blk_drewN ?_ _ | refine blk_drew ?_ | refine blk_alloc ?_ _)); exact BK223.out⟩, ⟨by (with_reducible repeat (first | refine blk_drewN ?_ _ | refine blk_drew ?_ | refine blk_alloc ?_ _)); exact BK231.out⟩, ⟨by (with_reducible repeat (first | refine blk_drewN ?_ _ | refine blk_drew ?_ | refine blk_alloc ?_ _)); exact BK238.out⟩, ⟨by repeat (first | (with_reducible first | exact HB.out | apply below_alloc | apply pw_below_drewN | apply below_drew1 | refine below_set ?_ GE223.out | refine below_set ?_ GE231.out | refine below_set ?_ GE238.out) | exact HB.out)⟩⟩
        case round =>
          clear H'
          try clear c1
          try clear c2
          try clear p2
          try clear c7
          try clear c12
          try clear c13
          try clear c14
          try clear c17
          try clear c18
          try clear c20
          try clear c22
          try clear hcz13_0
          try clear hcz13_1
          try clear hcz13_2
          try clear hcz13_3
          try clear hcz13_4
          try clear hcz14_0
          try clear hcz14_1
          try clear hcz14_2
          try clear hcz19_0
          try clear hcz19_1
          try clear hcz19_2
          try clear hcz19_3
          try clear hcz19_4
          try clear hcz9_0
          try clear hcz9_1
          try clear hcz9_2
          try clear hfz13_0
          try clear hfz13_1
          try clear hfz13_2
          try clear hfz13_3
          try clear hfz13_4
          try clear hfz14_0
          try clear hfz14_1
          try clear hfz14_2
          try clear hfz19_0
          try clear hfz19_1
          try clear hfz19_2
          try clear hfz19_3
          try clear hfz19_4
          try clear hfz9_0
          try clear hfz9_1
          try clear hfz9_2
          try clear p2
          obtain ⟨x10_2, x232000_2, x232001_2, x232002_2, x232003_2, x232004_2, x239000_2, x239001_2, x239002_2, x239003_2, x239004_2, rfl, HA, HK2, BK223, BK231, BK238, HB⟩ := hrel
          cases gk with
          | zero => exact absurd HA.out (by simp [annexlaw17_RtoRuns.l0])
          | succ k2 =>
            have H := HA.out
            clear HA
            simp only [annexlaw17_RtoRuns.l0] at H
            by_cases c23 : x10_2 < (l1.length : Int)
            · rw [if_pos c23] at H
              have c23b0 : decide (x10_2 < (l1.length : Int)) = true := decide_eq_true c23
              clear c23
              by_cases c24 : 0 ≤ x10_2
              · rw [if_pos c24] at H
                have c24b0 : decide (0 ≤ x10_2) = true := decide_eq_true c24
                clear c24
                have HC25 := Aside0.mk H
                clear H
                have p240 : 0 ≤ (x10_2 : Int) := of_decide_eq_true (by first | (with_reducible assumption) | assumption)
                have q240 : x10_2 < (l1.length : Int) := of_decide_eq_true (by first | (with_reducible assumption) | assumption)
                obtain ⟨ad240, e240, hx240_0⟩ := Kd.at_int HR1.out x10_2 p240 q240
                cases e240
                replace hx240_0 := (HB.out.cell (World.block_lt_of_cell? w _ hx240_0)).trans hx240_0
                replace p240 := eq_true p240
                replace q240 := eq_true q240
                go_upto_if 43 with (fail)
                go_cut [] (fun wc => ∃ (kq : Nat) (x232000_24 : Int) (x232001_24 : Int) (x232002_24 : Int) (x232003_24 : Int) (x232004_24 : Bool) (x239000_24 : Int) (x239001_24 : Int) (x239002_24 : Int) (x239003_24 : Int) (x239004_24 : Bool), Aside0 (annexlaw17_RtoRuns.j2 kq l1 x10_2 a0_0 a0_1 a0_2 x232000_24 x232001_24 x232002_24 x232003_24 x232004_24 x239000_24 x239001_24 x239002_24 x239003_24 x239004_24 = some r) ∧ Aside0 (kq ≤ k2) ∧ Aside0 (wc.heap[gb223]? = some (.cells #[.int .i64 a0_0, .int .i64 a0_1, .int .i64 a0_2] 23 (0, 0))) ∧ Aside0 (wc.heap[gb231]? = some (.cells #[.int .i64 x232000_24, .int .i64 x232001_24, .int .i64 x232002_24, .int .i64 x232003_24, .bool x232004_24] 26 (0, 0))) ∧ Aside0 (wc.heap[gb238]? = some (.cells #[.int .i64 x239000_24, .int .i64 x239001_24, .int .i64 x239002_24, .int .i64 x239003_24, .bool x239004_24] 26 (0, 0))) ∧ Aside0 (Below w.heap.size w wc))
                case first =>
                  have H := HC25.out
                  clear HC25
                  by_cases c26 : (rd l1 x10_2) < 0
                  · rw [if_pos c26] at H
                    have c26b0 : decide ((rd l1 x10_2) < 0) = true := decide_eq_true c26
                    clear c26
                    (first | rw [c26b0] | (simp only [i64_w, i32_w]; rw [c26b0]) | skip)
                    replace H := Option.bind_eq_some_iff.mp H
                    obtain ⟨⟨t241, t242, t243, t244, t245⟩, A270, H⟩ := H
                    replace H : ((annexref17_Expire.f k2 a0_0 a0_1 a0_2 x239000_2 x239001_2 x239002_2 x239003_2 x239004_2).bind fun bt246 => (annexlaw17_RtoRuns.j2 k2 l1 x10_2 a0_0 a0_1 a0_2 t241 t242 t243 t244 t245 bt246.1 bt246.2.1 bt246.2.2.1 bt246.2.2.2.1 bt246.2.2.2.2)) = some r := H
                    have A27 := Aside0.mk A270
                    clear A270
                    replace H := Option.bind_eq_some_iff.mp H
                    obtain ⟨⟨t246, t247, t248, t249, t250⟩, A280, H⟩ := H
                    replace H : (annexlaw17_RtoRuns.j2 k2 l1 x10_2 a0_0 a0_1 a0_2 t241 t242 t243 t244 t245 t246 t247 t248 t249 t250) = some r := H
                    have A28 := Aside0.mk A280
                    clear A280
                    have H' := Aside0.mk H
                    clear H
                    have hnb29 := NB223_231.out
                    have hnc29 := NB231_223.out
                    have hnb30 := NB223_238.out
                    have hnc30 := NB238_223.out
                    have hcz31_0 : wr.cell? ⟨gb223, 0, none⟩ = some (.int .i64 a0_0) := (blk_cell BK223.out 0).trans rfl
                    have hcz31_1 : wr.cell? ⟨gb223, 1, none⟩ = some (.int .i64 a0_1) := (blk_cell BK223.out 1).trans rfl
                    have hcz31_2 : wr.cell? ⟨gb223, 2, none⟩ = some (.int .i64 a0_2) := (blk_cell BK223.out 2).trans rfl
                    have hfz31_0 := blk_frozen BK223.out 0
                    have hfz31_1 := blk_frozen BK223.out 1
                    have hfz31_2 := blk_frozen BK223.out 2
                    have hnb32 := NB231_238.out
                    have hnc32 := NB238_231.out
                    have hcz33_0 : wr.cell? ⟨gb231, 0, none⟩ = some (.int .i64 x232000_2) := (blk_cell BK231.out 0).trans rfl
                    have hcz33_1 : wr.cell? ⟨gb231, 1, none⟩ = some (.int .i64 x232001_2) := (blk_cell BK231.out 1).trans rfl
                    have hcz33_2 : wr.cell? ⟨gb231, 2, none⟩ = some (.int .i64 x232002_2) := (blk_cell BK231.out 2).trans rfl
                    have hcz33_3 : wr.cell? ⟨gb231, 3, none⟩ = some (.int .i64 x232003_2) := (blk_cell BK231.out 3).trans rfl
                    have hcz33_4 : wr.cell? ⟨gb231, 4, none⟩ = some (.bool x232004_2) := (blk_cell BK231.out 4).trans rfl
                    have hfz33_0 := blk_frozen BK231.out 0
                    have hfz33_1 := blk_frozen BK231.out 1
                    have hfz33_2 := blk_frozen BK231.out 2
                    have hfz33_3 := blk_frozen BK231.out 3
                    have hfz33_4 := blk_frozen BK231.out 4
                    go_wp2_with (first | ((with_reducible refine gate_callee (f := 19) rfl ?_); refine goesL_ (some 46) rfl rfl Tryd.func19 (by kernel_rfl) rfl #[.agg #[.int .i64 a0_0, .int .i64 a0_1, .int .i64 a0_2], .agg #[.int .i64 x232000_2, .int .i64 x232001_2, .int .i64 x232002_2, .int .i64 x232003_2, .bool x232004_2]] rfl (by (try simp only [List.map_toArray, List.map_cons, List.map_nil]); first | done | rfl | (simp only [List.length_drop, List.length_take]; rfl)) ?_; (with_reducible refine (rto_Expire.calls a0_0 a0_1 a0_2 x232000_2 x232001_2 x232002_2 x232003_2 x232004_2 t241 t242 t243 t244 t245 _ ?side1 A27.out).mono ?_); (case side1 => exact Tied.below HG.out (by repeat (first | (with_reducible first | exact HB.out | apply below_alloc | apply pw_below_drewN | apply below_drew1 | refine below_set ?_ GE223.out | refine below_set ?_ GE231.out | refine below_set ?_ GE238.out) | exact HB.out))); rintro e w34 ⟨rfl, hb⟩; refine ⟨_, rfl, ?_⟩; have n0_ := Aside0.mk (blk_below (g := gb223) (o := .cells #[.int .i64 a0_0, .int .i64 a0_1, .int .i64 a0_2] 23 (0, 0)) (by (with_reducible repeat (first | refine blk_drewN ?_ _ | refine blk_drew ?_ | refine blk_alloc ?_ _)); exact BK223.out) hb); have n1_ := Aside0.mk (blk_below (g := gb231) (o := .cells #[.int .i64 x232000_2, .int .i64 x232001_2, .int .i64 x232002_2, .int .i64 x232003_2, .bool x232004_2] 26 (0, 0)) (by (with_reducible repeat (first | refine blk_drewN ?_ _ | refine blk_drew ?_ | refine blk_alloc ?_ _)); exact BK231.out) hb); have n2_ := Aside0.mk (blk_below (g := gb238) (o := .cells #[.int .i64 x239000_2, .int .i64 x239001_2, .int .i64 x239002_2, .int .i64 x239003_2, .bool x239004_2] 26 (0, 0)) (by (with_reducible repeat (first | refine blk_drewN ?_ _ | refine blk_drew ?_ | refine blk_alloc ?_ _)); exact BK238.out) hb); have n3_ := Aside0.mk (below_step (by repeat (first | (with_reducible first | exact HB.out | apply below_alloc | apply pw_below_drewN | apply below_drew1 | refine below_set ?_ GE223.out | refine below_set ?_ GE231.out | refine below_set ?_ GE238.out) | exact HB.out)) hb); clear BK223; clear BK231; clear BK238; clear HB; have BK223 := n0_; have BK231 := n1_; have BK238 := n2_; have HB := n3_; clear n0_ n1_ n2_ n3_; (try clear hb); (try clear hb2); (try clear hk); (try clear hi); have hcz35_0 : w34.cell? ⟨gb231, 0, none⟩ = some (.int .i64 x232000_2) := (blk_cell BK231.out 0).trans rfl; have hcz35_1 : w34.cell? ⟨gb231, 1, none⟩ = some (.int .i64 x232001_2) := (blk_cell BK231.out 1).trans rfl; have hcz35_2 : w34.cell? ⟨gb231, 2, none⟩ = some (.int .i64 x232002_2) := (blk_cell BK231.out 2).trans rfl; have hcz35_3 : w34.cell? ⟨gb231, 3, none⟩ = some (.int .i64 x232003_2) := (blk_cell BK231.out 3).trans rfl; have hcz35_4 : w34.cell? ⟨gb231, 4, none⟩ = some (.bool x232004_2) := (blk_cell BK231.out 4).trans rfl; have hfz35_0 := blk_frozen BK231.out 0; have hfz35_1 := blk_frozen BK231.out 1; have hfz35_2 := blk_frozen BK231.out 2; have hfz35_3 := blk_frozen BK231.out 3; have hfz35_4 := blk_frozen BK231.out 4; have hcz36_0 : w34.cell? ⟨gb223, 0, none⟩ = some (.int .i64 a0_0) := (blk_cell BK223.out 0).trans rfl; have hcz36_1 : w34.cell? ⟨gb223, 1, none⟩ = some (.int .i64 a0_1) := (blk_cell BK223.out 1).trans rfl; have hcz36_2 : w34.cell? ⟨gb223, 2, none⟩ = some (.int .i64 a0_2) := (blk_cell BK223.out 2).trans rfl; have hfz36_0 := blk_frozen BK223.out 0; have hfz36_1 := blk_frozen BK223.out 1; have hfz36_2 := blk_frozen BK223.out 2; have hcz37_0 : w34.cell? ⟨gb238, 0, none⟩ = some (.int .i64 x239000_2) := (blk_cell BK238.out 0).trans rfl; have hcz37_1 : w34.cell? ⟨gb238, 1, none⟩ = some (.int .i64 x239001_2) := (blk_cell BK238.out 1).trans rfl; have hcz37_2 : w34.cell? ⟨gb238, 2, none⟩ = some (.int .i64 x239002_2) := (blk_cell BK238.out 2).trans rfl; have hcz37_3 : w34.cell? ⟨gb238, 3, none⟩ = some (.int .i64 x239003_2) := (blk_cell BK238.out 3).trans rfl; have hcz37_4 : w34.cell? ⟨gb238, 4, none⟩ = some (.bool x239004_2) := (blk_cell BK238.out 4).trans rfl; have hfz37_0 := blk_frozen BK238.out 0; have hfz37_1 := blk_frozen BK238.out 1; have hfz37_2 := blk_frozen BK238.out 2; have hfz37_3 := blk_frozen BK238.out 3; have hfz37_4 := blk_frozen BK238.out 4) | ((with_reducible refine gate_callee (f := 20) rfl ?_); refine goesL_ (some 49) rfl rfl Tryd.func20 (by kernel_rfl) rfl #[.agg #[.int .i64 a0_0, .int .i64 a0_1, .int .i64 a0_2], .agg #[.int .i64 x239000_2, .int .i64 x239001_2, .int .i64 x239002_2, .int .i64 x239003_2, .bool x239004_2]] rfl (by (try simp only [List.map_toArray, List.map_cons, List.map_nil]); first | done | rfl | (simp only [List.length_drop, List.length_take]; rfl)) ?_; (with_reducible refine (annexref17_Expire.calls k2 a0_0 a0_1 a0_2 x239000_2 x239001_2 x239002_2 x239003_2 x239004_2 t246 t247 t248 t249 t250 _ A28.out).mono ?_); rintro e w38 ⟨rfl, hb⟩; refine ⟨_, rfl, ?_⟩; have n0_ := Aside0.mk (blk_below (g := gb223) (o := .cells #[.int .i64 a0_0, .int .i64 a0_1, .int .i64 a0_2] 23 (0, 0)) (by (with_reducible repeat (first | refine blk_drewN ?_ _ | refine blk_drew ?_ | refine blk_alloc ?_ _)); refine blk_far ?_ NB223_231.out _; (with_reducible repeat (first | refine blk_drewN ?_ _ | refine blk_drew ?_ | refine blk_alloc ?_ _)); refine blk_far ?_ NB223_231.out _; (with_reducible repeat (first | refine blk_drewN ?_ _ | refine blk_drew ?_ | refine blk_alloc ?_ _)); refine blk_far ?_ NB223_231.out _; (with_reducible repeat (first | refine blk_drewN ?_ _ | refine blk_drew ?_ | refine blk_alloc ?_ _)); refine blk_far ?_ NB223_231.out _; (with_reducible repeat (first | refine blk_drewN ?_ _ | refine blk_drew ?_ | refine blk_alloc ?_ _)); refine blk_far ?_ NB223_231.out _; (with_reducible repeat (first | refine blk_drewN ?_ _ | refine blk_drew ?_ | refine blk_alloc ?_ _)); exact BK223.out) hb); have n1_ := Aside0.mk (blk_below (g := gb231) (o := .cells #[.int .i64 t241, .int .i64 t242, .int .i64 t243, .int .i64 t244, .bool t245] 26 (0, 0)) (by (with_reducible repeat (first | refine blk_drewN ?_ _ | refine blk_drew ?_ | refine blk_alloc ?_ _)); refine blk_put (cs := #[.int .i64 t241, .int .i64 t242, .int .i64 t243, .int .i64 t244, .bool x232004_2]) ?_ 4 _ rfl; (with_reducible repeat (first | refine blk_drewN ?_ _ | refine blk_drew ?_ | refine blk_alloc ?_ _)); refine blk_put (cs := #[.int .i64 t241, .int .i64 t242, .int .i64 t243, .int .i64 x232003_2, .bool x232004_2]) ?_ 3 _ rfl; (with_reducible repeat (first | refine blk_drewN ?_ _ | refine blk_drew ?_ | refine blk_alloc ?_ _)); refine blk_put (cs := #[.int .i64 t241, .int .i64 t242, .int .i64 x232002_2, .int .i64 x232003_2, .bool x232004_2]) ?_ 2 _ rfl; (with_reducible repeat (first | refine blk_drewN ?_ _ | refine blk_drew ?_ | refine blk_alloc ?_ _)); refine blk_put (cs := #[.int .i64 t241, .int .i64 x232001_2, .int .i64 x232002_2, .int .i64 x232003_2, .bool x232004_2]) ?_ 1 _ rfl; (with_reducible repeat (first | refine blk_drewN ?_ _ | refine blk_drew ?_ | refine blk_alloc ?_ _)); refine blk_put (cs := #[.int .i64 x232000_2, .int .i64 x232001_2, .int .i64 x232002_2, .int .i64 x232003_2, .bool x232004_2]) ?_ 0 _ rfl; (with_reducible repeat (first | refine blk_drewN ?_ _ | refine blk_drew ?_ | refine blk_alloc ?_ _)); exact BK231.out) hb); have n2_ := Aside0.mk (blk_below (g := gb238) (o := .cells #[.int .i64 x239000_2, .int .i64 x239001_2, .int .i64 x239002_2, .int .i64 x239003_2, .bool x239004_2] 26 (0, 0)) (by (with_reducible repeat (first | refine blk_drewN ?_ _ | refine blk_drew ?_ | refine blk_alloc ?_ _)); refine blk_far ?_ NB238_231.out _; (with_reducible repeat (first | refine blk_drewN ?_ _ | refine blk_drew ?_ | refine blk_alloc ?_ _)); refine blk_far ?_ NB238_231.out _; (with_reducible repeat (first | refine blk_drewN ?_ _ | refine blk_drew ?_ | refine blk_alloc ?_ _)); refine blk_far ?_ NB238_231.out _; (with_reducible repeat (first | refine blk_drewN ?_ _ | refine blk_drew ?_ | refine blk_alloc ?_ _)); refine blk_far ?_ NB238_231.out _; (with_reducible repeat (first | refine blk_drewN ?_ _ | refine blk_drew ?_ | refine blk_alloc ?_ _)); refine blk_far ?_ NB238_231.out _; (with_reducible repeat (first | refine blk_drewN ?_ _ | refine blk_drew ?_ | refine blk_alloc ?_ _)); exact BK238.out) hb); have n3_ := Aside0.mk (below_step (by repeat (first | (with_reducible first | exact HB.out | apply below_alloc | apply pw_below_drewN | apply below_drew1 | refine below_set ?_ GE223.out | refine below_set ?_ GE231.out | refine below_set ?_ GE238.out) | exact HB.out)) hb); clear BK223; clear BK231; clear BK238; clear HB; have BK223 := n0_; have BK231 := n1_; have BK238 := n2_; have HB := n3_; clear n0_ n1_ n2_ n3_; (try clear hb); (try clear hb2); (try clear hk); (try clear hi); have hcz39_0 : w38.cell? ⟨gb238, 0, none⟩ = some (.int .i64 x239000_2) := (blk_cell BK238.out 0).trans rfl; have hcz39_1 : w38.cell? ⟨gb238, 1, none⟩ = some (.int .i64 x239001_2) := (blk_cell BK238.out 1).trans rfl; have hcz39_2 : w38.cell? ⟨gb238, 2, none⟩ = some (.int .i64 x239002_2) := (blk_cell BK238.out 2).trans rfl; have hcz39_3 : w38.cell? ⟨gb238, 3, none⟩ = some (.int .i64 x239003_2) := (blk_cell BK238.out 3).trans rfl; have hcz39_4 : w38.cell? ⟨gb238, 4, none⟩ = some (.bool x239004_2) := (blk_cell BK238.out 4).trans rfl; have hfz39_0 := blk_frozen BK238.out 0; have hfz39_1 := blk_frozen BK238.out 1; have hfz39_2 := blk_frozen BK238.out 2; have hfz39_3 := blk_frozen BK238.out 3; have hfz39_4 := blk_frozen BK238.out 4))
                    go_meet
                    case rel => exact ⟨_, (t241), (t242), (t243), (t244), (t245), (t246), (t247), (t248), (t249), (t250), H', ⟨by have := HJ5.out; have := HK2.out; first | omega | exact Nat.le_refl _⟩, ⟨by (with_reducible repeat (first | refine blk_drewN ?_ _ | refine blk_drew ?_ | refine blk_alloc ?_ _)); refine blk_far ?_ NB223_238.out _; (with_reducible repeat (first | refine blk_drewN ?_ _ | refine blk_drew ?_ | refine blk_alloc ?_ _)); refine blk_far ?_ NB223_238.out _; (with_reducible repeat (first | refine blk_drewN ?_ _ | refine blk_drew ?_ | refine blk_alloc ?_ _)); refine blk_far ?_ NB223_238.out _; (with_reducible repeat (first | refine blk_drewN ?_ _ | refine blk_drew ?_ | refine blk_alloc ?_ _)); refine blk_far ?_ NB223_238.out _; (with_reducible repeat (first | refine blk_drewN ?_ _ | refine blk_drew ?_ | refine blk_alloc ?_ _)); refine blk_far ?_ NB223_238.out _; (with_reducible repeat (first | refine blk_drewN ?_ _ | refine blk_drew ?_ | refine blk_alloc ?_ _)); exact BK223.out⟩, ⟨by (with_reducible repeat (first | refine blk_drewN ?_ _ | refine blk_drew ?_ | refine blk_alloc ?_ _)); refine blk_far ?_ NB231_238.out _; (with_reducible repeat (first | refine blk_drewN ?_ _ | refine blk_drew ?_ | refine blk_alloc ?_ _)); refine blk_far ?_ NB231_238.out _; (with_reducible repeat (first | refine blk_drewN ?_ _ | refine blk_drew ?_ | refine blk_alloc ?_ _)); refine blk_far ?_ NB231_238.out _; (with_reducible repeat (first | refine blk_drewN ?_ _ | refine blk_drew ?_ | refine blk_alloc ?_ _)); refine blk_far ?_ NB231_238.out _; (with_reducible repeat (first | refine blk_drewN ?_ _ | refine blk_drew ?_ | refine blk_alloc ?_ _)); refine blk_far ?_ NB231_238.out _; (with_reducible repeat (first | refine blk_drewN ?_ _ | refine blk_drew ?_ | refine blk_alloc ?_ _)); exact BK231.out⟩, ⟨by (with_reducible repeat (first | refine blk_drewN ?_ _ | refine blk_drew ?_ | refine blk_alloc ?_ _)); refine blk_put (cs := #[.int .i64 t246, .int .i64 t247, .int .i64 t248, .int .i64 t249, .bool x239004_2]) ?_ 4 _ rfl; (with_reducible repeat (first | refine blk_drewN ?_ _ | refine blk_drew ?_ | refine blk_alloc ?_ _)); refine blk_put (cs := #[.int .i64 t246, .int .i64 t247, .int .i64 t248, .int .i64 x239003_2, .bool x239004_2]) ?_ 3 _ rfl; (with_reducible repeat (first | refine blk_drewN ?_ _ | refine blk_drew ?_ | refine blk_alloc ?_ _)); refine blk_put (cs := #[.int .i64 t246, .int .i64 t247, .int .i64 x239002_2, .int .i64 x239003_2, .bool x239004_2]) ?_ 2 _ rfl; (with_reducible repeat (first | refine blk_drewN ?_ _ | refine blk_drew ?_ | refine blk_alloc ?_ _)); refine blk_put (cs := #[.int .i64 t246, .int .i64 x239001_2, .int .i64 x239002_2, .int .i64 x239003_2, .bool x239004_2]) ?_ 1 _ rfl; (with_reducible repeat (first | refine blk_drewN ?_ _ | refine blk_drew ?_ | refine blk_alloc ?_ _)); refine blk_put (cs := #[.int .i64 x239000_2, .int .i64 x239001_2, .int .i64 x239002_2, .int .i64 x239003_2, .bool x239004_2]) ?_ 0 _ rfl; (with_reducible repeat (first | refine blk_drewN ?_ _ | refine blk_drew ?_ | refine blk_alloc ?_ _)); exact BK238.out⟩, ⟨by repeat (first | (with_reducible first | exact HB.out | apply below_alloc | apply pw_below_drewN | apply below_drew1 | refine below_set ?_ GE223.out | refine below_set ?_ GE231.out | refine below_set ?_ GE238.out) | exact HB.out)⟩⟩
                  · rw [if_neg c26] at H
                    have c26b0 : decide ((rd l1 x10_2) < 0) = false := decide_eq_false c26
                    clear c26
                    (first | rw [c26b0] | (simp only [i64_w, i32_w]; rw [c26b0]) | skip)
                    replace H := Option.bind_eq_some_iff.mp H
                    obtain ⟨⟨t252, t253, t254, t255, t256⟩, A400, H⟩ := H
                    replace H : ((annexref17_Sample.f k2 a0_0 a0_1 a0_2 x239000_2 x239001_2 x239002_2 x239003_2 x239004_2 (rd l1 x10_2)).bind fun bt258 => (annexlaw17_RtoRuns.j2 k2 l1 x10_2 a0_0 a0_1 a0_2 t252 t253 t254 t255 t256 bt258.1 bt258.2.1 bt258.2.2.1 bt258.2.2.2.1 bt258.2.2.2.2)) = some r := H
                    have A40 := Aside0.mk A400
                    clear A400
                    replace H := Option.bind_eq_some_iff.mp H
                    obtain ⟨⟨t258, t259, t260, t261, t262⟩, A410, H⟩ := H
                    replace H : (annexlaw17_RtoRuns.j2 k2 l1 x10_2 a0_0 a0_1 a0_2 t252 t253 t254 t255 t256 t258 t259 t260 t261 t262) = some r := H
                    have A41 := Aside0.mk A410
                    clear A410
                    have H' := Aside0.mk H
                    clear H
                    try go_wp2
                    have n0_ := Aside0.mk (blk_drew BK223.out)
                    have n1_ := Aside0.mk (blk_drew BK231.out)
                    have n2_ := Aside0.mk (blk_drew BK238.out)
                    have n3_ := Aside0.mk (below_drew1 HB.out)
                    clear BK223
                    clear BK231
                    clear BK238
                    clear HB
                    have BK223 := n0_
                    have BK231 := n1_
                    have BK238 := n2_
                    have HB := n3_
                    clear n0_ n1_ n2_ n3_
                    have p251 : 0 ≤ (x10_2 : Int) := of_decide_eq_true (by first | (with_reducible assumption) | assumption)
                    have q251 : x10_2 < (l1.length : Int) := of_decide_eq_true (by first | (with_reducible assumption) | assumption)
                    obtain ⟨ad251, e251, hx251_0⟩ := Kd.at_int HR1.out x10_2 p251 q251
                    have hw251_0 := hx251_0
                    obtain rfl : ad240 = ad251 := (by injection e251)
                    replace hx251_0 := (HB.out.cell (World.block_lt_of_cell? w _ hx251_0)).trans hx251_0
                    replace p251 := eq_true p251
                    replace q251 := eq_true q251
                    refine start_ (n := 8) (S := fun w' => w'.cell? ⟨gb223, 0, none⟩ = some (.int .i64 a0_0) ∧ w'.cell? ⟨gb223, 1, none⟩ = some (.int .i64 a0_1) ∧ w'.cell? ⟨gb223, 2, none⟩ = some (.int .i64 a0_2) ∧ w'.cell? ⟨gb231, 0, none⟩ = some (.int .i64 x232000_2) ∧ w'.cell? ⟨gb231, 1, none⟩ = some (.int .i64 x232001_2) ∧ w'.cell? ⟨gb231, 2, none⟩ = some (.int .i64 x232002_2) ∧ w'.cell? ⟨gb231, 3, none⟩ = some (.int .i64 x232003_2) ∧ w'.cell? ⟨gb231, 4, none⟩ = some (.bool x232004_2) ∧ w'.cell? (ad240.add (x10_2).toNat) = some (.int .i64 (rd l1 x10_2))) (ds := [7]) #[false, false, false, false, false, false, false, false] (by kernel_rfl) rfl rfl ⟨(blk_cell BK223.out 0).trans rfl, (blk_cell BK223.out 1).trans rfl, (blk_cell BK223.out 2).trans rfl, (blk_cell BK231.out 0).trans rfl, (blk_cell BK231.out 1).trans rfl, (blk_cell BK231.out 2).trans rfl, (blk_cell BK231.out 3).trans rfl, (blk_cell BK231.out 4).trans rfl, ((HB.out.cell (World.block_lt_of_cell? w _ hw251_0)).trans hw251_0)⟩ (fun hHeld => ?_); refine with_tabW annexlaw17_RtoRuns.tab12 annexlaw17_RtoRuns.bits12 (fun HT_ HW_ => ?_)
                    generalize wr.drew = w42 at BK223 BK231 BK238 HB hx251_0 hHeld ⊢
                    refine pure_ (i := 2) (N := some 52) (v := ?_) (a' := ?_) #[false, false, true, false, false, false, false, false] rfl rfl (any_of HT_.out (by kernel_rfl)) (fun _ _ _ h => h) (Or.inl ⟨by rfl, ?_⟩) ?_ ?_
                    rotate_left
                    · intro w'
                      go_simp
                      with_reducible rfl
                    rotate_left
                    · simp only [Act.put, List.setIfInBounds_toArray, List.set_cons_zero, List.set_cons_succ, i64_w, i32_w]
                      rfl
                    refine pure_ (i := 3) (N := some 53) (v := ?_) (a' := ?_) #[false, false, true, true, false, false, false, false] rfl rfl (any_of HT_.out (by kernel_rfl)) (fun _ _ _ h => h) (Or.inl ⟨by rfl, ?_⟩) ?_ ?_
                    rotate_left
                    · intro w'
                      go_simp
                      with_reducible rfl
                    rotate_left
                    · simp only [Act.put, List.setIfInBounds_toArray, List.set_cons_zero, List.set_cons_succ, i64_w, i32_w]
                      rfl
                    refine pure_ (i := 4) (N := some 54) (v := ?_) (a' := ?_) #[false, false, true, true, true, false, false, false] rfl rfl (any_of HT_.out (by kernel_rfl)) (fun _ _ _ h => h) (Or.inl ⟨by rfl, ?_⟩) ?_ ?_
                    rotate_left
                    · intro w'
                      go_simp
                      with_reducible rfl
                    rotate_left
                    · simp only [Act.put, List.setIfInBounds_toArray, List.set_cons_zero, List.set_cons_succ, i64_w, i32_w]
                      rfl
                    refine take_ (i := 0) (N := some 50) (v := ?_) (a' := ?_) #[true, false, true, true, true, false, false, false] rfl rfl (take_ofW HT_.out HW_.out (by kernel_rfl)) (fun _ _ _ h => h) (Or.inl ⟨by rfl, ?_⟩) hHeld ?_ ?_
                    rotate_left
                    · rintro w' ⟨s0, s1, s2, s3, s4, s5, s6, s7, s8⟩
                      go_simp
                      with_reducible rfl
                    rotate_left
                    · simp only [Act.put, List.setIfInBounds_toArray, List.set_cons_zero, List.set_cons_succ, i64_w, i32_w]
                      rfl
                    refine take_ (i := 1) (N := some 51) (v := ?_) (a' := ?_) #[true, true, true, true, true, false, false, false] rfl rfl (take_ofW HT_.out HW_.out (by kernel_rfl)) (fun _ _ _ h => h) (Or.inl ⟨by rfl, ?_⟩) hHeld ?_ ?_
                    rotate_left
                    · rintro w' ⟨s0, s1, s2, s3, s4, s5, s6, s7, s8⟩
                      go_simp
                      with_reducible rfl
                    rotate_left
                    · simp only [Act.put, List.setIfInBounds_toArray, List.set_cons_zero, List.set_cons_succ, i64_w, i32_w]
                      rfl
                    refine take_ (i := 5) (N := some 55) (v := ?_) (a' := ?_) #[true, true, true, true, true, true, false, false] rfl rfl (take_ofW HT_.out HW_.out (by kernel_rfl)) (fun _ _ _ h => h) (Or.inl ⟨by rfl, ?_⟩) hHeld ?_ ?_
                    rotate_left
                    · rintro w' ⟨s0, s1, s2, s3, s4, s5, s6, s7, s8⟩
                      go_simp
                      with_reducible rfl
                    rotate_left
                    · simp only [Act.put, List.setIfInBounds_toArray, List.set_cons_zero, List.set_cons_succ, i64_w, i32_w]
                      rfl
                    refine one_ (i := 6) (N := some 56) #[true, true, true, true, true, true, true, false] rfl rfl (one_of HT_.out (by kernel_rfl)) (by decide) (fun K hK => ?_)
                    refine goes_ Tryd.func17 (by kernel_rfl) rfl #[.agg #[.int .i64 a0_0, .int .i64 a0_1, .int .i64 a0_2], .agg #[.int .i64 x232000_2, .int .i64 x232001_2, .int .i64 x232002_2, .int .i64 x232003_2, .bool x232004_2], .int .i64 (rd l1 x10_2)] (by rfl) rfl rfl (by (try simp only [List.map_toArray, List.map_cons, List.map_nil]); first | done | rfl | (simp only [List.length_drop, List.length_take]; rfl)) ?_
                    with_reducible refine (rto_Sample.calls a0_0 a0_1 a0_2 x232000_2 x232001_2 x232002_2 x232003_2 x232004_2 (rd l1 x10_2) t252 t253 t254 t255 t256 _ ?side1 A40.out).mono ?_
                    (case side1 => exact Tied.below HG.out (by repeat (first | (with_reducible first | exact HB.out | apply below_alloc | apply pw_below_drewN | apply below_drew1 | refine below_set ?_ GE223.out | refine below_set ?_ GE231.out | refine below_set ?_ GE238.out) | exact HB.out)))
                    rintro e w43 ⟨rfl, hb⟩
                    refine ⟨_, rfl, ?_⟩
                    have n0_ := Aside0.mk (blk_below (g := gb223) (o := .cells #[.int .i64 a0_0, .int .i64 a0_1, .int .i64 a0_2] 23 (0, 0)) (by (with_reducible repeat (first | refine blk_drewN ?_ _ | refine blk_drew ?_ | refine blk_alloc ?_ _)); exact BK223.out) hb)
                    have n1_ := Aside0.mk (blk_below (g := gb231) (o := .cells #[.int .i64 x232000_2, .int .i64 x232001_2, .int .i64 x232002_2, .int .i64 x232003_2, .bool x232004_2] 26 (0, 0)) (by (with_reducible repeat (first | refine blk_drewN ?_ _ | refine blk_drew ?_ | refine blk_alloc ?_ _)); exact BK231.out) hb)
                    have n2_ := Aside0.mk (blk_below (g := gb238) (o := .cells #[.int .i64 x239000_2, .int .i64 x239001_2, .int .i64 x239002_2, .int .i64 x239003_2, .bool x239004_2] 26 (0, 0)) (by (with_reducible repeat (first | refine blk_drewN ?_ _ | refine blk_drew ?_ | refine blk_alloc ?_ _)); exact BK238.out) hb)
                    have n3_ := Aside0.mk (below_step (by repeat (first | (with_reducible first | exact HB.out | apply below_alloc | apply pw_below_drewN | apply below_drew1 | refine below_set ?_ GE223.out | refine below_set ?_ GE231.out | refine below_set ?_ GE238.out) | exact HB.out)) hb)
                    clear BK223
                    clear BK231
                    clear BK238
                    clear HB
                    have BK223 := n0_
                    have BK231 := n1_
                    have BK238 := n2_
                    have HB := n3_
                    clear n0_ n1_ n2_ n3_
                    (try clear hb)
                    (try clear hb2)
                    (try clear hk)
                    (try clear hi)
                    refine hK.out _ _ ⟨(blk_cell BK223.out 0).trans rfl, (blk_cell BK223.out 1).trans rfl, (blk_cell BK223.out 2).trans rfl, (blk_cell BK231.out 0).trans rfl, (blk_cell BK231.out 1).trans rfl, (blk_cell BK231.out 2).trans rfl, (blk_cell BK231.out 3).trans rfl, (blk_cell BK231.out 4).trans rfl, ((HB.out.cell (World.block_lt_of_cell? w _ hw251_0)).trans hw251_0)⟩ (fun hHeld => ?_)
                    clear hK K
                    refine norm_ (a' := ?_) ?_ ?_
                    rotate_left
                    · show Act.put _ (some 56) _ = _
                      simp only [Act.put, List.setIfInBounds_toArray, List.set_cons_zero, List.set_cons_succ, i64_w, i32_w]
                      rfl
                    refine last_ (i := 7) (N := none) #[true, true, true, true, true, true, true, true] rfl rfl (one_of HT_.out (by kernel_rfl)) (by decide) (fun K hK => ?_)
                    have hs44 : w43.cell? ⟨gb231, 0, none⟩ = some (.int .i64 x232000_2) := (blk_cell BK231.out 0).trans rfl
                    have hfs44 := blk_frozen BK231.out 0
                    have hns44_0 := NB223_231.out
                    have hns44_2 := NB238_231.out
                    have hms44_0 := NB231_223.out
                    have hms44_2 := NB231_238.out
                    have hs45 : w43.cell? ⟨gb231, 1, none⟩ = some (.int .i64 x232001_2) := (blk_cell BK231.out 1).trans rfl
                    have hfs45 := blk_frozen BK231.out 1
                    have hns45_0 := NB223_231.out
                    have hns45_2 := NB238_231.out
                    have hms45_0 := NB231_223.out
                    have hms45_2 := NB231_238.out
                    have hs46 : w43.cell? ⟨gb231, 2, none⟩ = some (.int .i64 x232002_2) := (blk_cell BK231.out 2).trans rfl
                    have hfs46 := blk_frozen BK231.out 2
                    have hns46_0 := NB223_231.out
                    have hns46_2 := NB238_231.out
                    have hms46_0 := NB231_223.out
                    have hms46_2 := NB231_238.out
                    have hs47 : w43.cell? ⟨gb231, 3, none⟩ = some (.int .i64 x232003_2) := (blk_cell BK231.out 3).trans rfl
                    have hfs47 := blk_frozen BK231.out 3
                    have hns47_0 := NB223_231.out
                    have hns47_2 := NB238_231.out
                    have hms47_0 := NB231_223.out
                    have hms47_2 := NB231_238.out
                    have hs48 : w43.cell? ⟨gb231, 4, none⟩ = some (.bool x232004_2) := (blk_cell BK231.out 4).trans rfl
                    have hfs48 := blk_frozen BK231.out 4
                    have hns48_0 := NB223_231.out
                    have hns48_2 := NB238_231.out
                    have hms48_0 := NB231_223.out
                    have hms48_2 := NB231_238.out
                    refine skip_ (w1 := ?_) (by rfl) rfl ?_ ?_
                    rotate_left
                    · go_simp
                      rfl
                    refine hK.out _ _ ?_
                    clear hK K
                    refine done_ (done_of HT_.out (by kernel_rfl)) ?_
                    try go_wp2
                    have n0_ : Aside0 ((((((w43.setCell ⟨gb231, 0, none⟩ (.int .i64 t252)).setCell ⟨gb231, 1, none⟩ (.int .i64 t253)).setCell ⟨gb231, 2, none⟩ (.int .i64 t254)).setCell ⟨gb231, 3, none⟩ (.int .i64 t255)).setCell ⟨gb231, 4, none⟩ (.bool t256)).heap[gb223]? = some (.cells #[.int .i64 a0_0, .int .i64 a0_1, .int .i64 a0_2] 23 (0, 0))) := ⟨by (with_reducible repeat (first | refine blk_drewN ?_ _ | refine blk_drew ?_ | refine blk_alloc ?_ _)); refine blk_far ?_ NB223_231.out _; (with_reducible repeat (first | refine blk_drewN ?_ _ | refine blk_drew ?_ | refine blk_alloc ?_ _)); refine blk_far ?_ NB223_231.out _; (with_reducible repeat (first | refine blk_drewN ?_ _ | refine blk_drew ?_ | refine blk_alloc ?_ _)); refine blk_far ?_ NB223_231.out _; (with_reducible repeat (first | refine blk_drewN ?_ _ | refine blk_drew ?_ | refine blk_alloc ?_ _)); refine blk_far ?_ NB223_231.out _; (with_reducible repeat (first | refine blk_drewN ?_ _ | refine blk_drew ?_ | refine blk_alloc ?_ _)); refine blk_far ?_ NB223_231.out _; (with_reducible repeat (first | refine blk_drewN ?_ _ | refine blk_drew ?_ | refine blk_alloc ?_ _)); exact BK223.out⟩
                    have n1_ : Aside0 ((((((w43.setCell ⟨gb231, 0, none⟩ (.int .i64 t252)).setCell ⟨gb231, 1, none⟩ (.int .i64 t253)).setCell ⟨gb231, 2, none⟩ (.int .i64 t254)).setCell ⟨gb231, 3, none⟩ (.int .i64 t255)).setCell ⟨gb231, 4, none⟩ (.bool t256)).heap[gb231]? = some (.cells #[.int .i64 t252, .int .i64 t253, .int .i64 t254, .int .i64 t255, .bool t256] 26 (0, 0))) := ⟨by (with_reducible repeat (first | refine blk_drewN ?_ _ | refine blk_drew ?_ | refine blk_alloc ?_ _)); refine blk_put (cs := #[.int .i64 t252, .int .i64 t253, .int .i64 t254, .int .i64 t255, .bool x232004_2]) ?_ 4 _ rfl; (with_reducible repeat (first | refine blk_drewN ?_ _ | refine blk_drew ?_ | refine blk_alloc ?_ _)); refine blk_put (cs := #[.int .i64 t252, .int .i64 t253, .int .i64 t254, .int .i64 x232003_2, .bool x232004_2]) ?_ 3 _ rfl; (with_reducible repeat (first | refine blk_drewN ?_ _ | refine blk_drew ?_ | refine blk_alloc ?_ _)); refine blk_put (cs := #[.int .i64 t252, .int .i64 t253, .int .i64 x232002_2, .int .i64 x232003_2, .bool x232004_2]) ?_ 2 _ rfl; (with_reducible repeat (first | refine blk_drewN ?_ _ | refine blk_drew ?_ | refine blk_alloc ?_ _)); refine blk_put (cs := #[.int .i64 t252, .int .i64 x232001_2, .int .i64 x232002_2, .int .i64 x232003_2, .bool x232004_2]) ?_ 1 _ rfl; (with_reducible repeat (first | refine blk_drewN ?_ _ | refine blk_drew ?_ | refine blk_alloc ?_ _)); refine blk_put (cs := #[.int .i64 x232000_2, .int .i64 x232001_2, .int .i64 x232002_2, .int .i64 x232003_2, .bool x232004_2]) ?_ 0 _ rfl; (with_reducible repeat (first | refine blk_drewN ?_ _ | refine blk_drew ?_ | refine blk_alloc ?_ _)); exact BK231.out⟩
                    have n2_ : Aside0 ((((((w43.setCell ⟨gb231, 0, none⟩ (.int .i64 t252)).setCell ⟨gb231, 1, none⟩ (.int .i64 t253)).setCell ⟨gb231, 2, none⟩ (.int .i64 t254)).setCell ⟨gb231, 3, none⟩ (.int .i64 t255)).setCell ⟨gb231, 4, none⟩ (.bool t256)).heap[gb238]? = some (.cells #[.int .i64 x239000_2, .int .i64 x239001_2, .int .i64 x239002_2, .int .i64 x239003_2, .bool x239004_2] 26 (0, 0))) := ⟨by (with_reducible repeat (first | refine blk_drewN ?_ _ | refine blk_drew ?_ | refine blk_alloc ?_ _)); refine blk_far ?_ NB238_231.out _; (with_reducible repeat (first | refine blk_drewN ?_ _ | refine blk_drew ?_ | refine blk_alloc ?_ _)); refine blk_far ?_ NB238_231.out _; (with_reducible repeat (first | refine blk_drewN ?_ _ | refine blk_drew ?_ | refine blk_alloc ?_ _)); refine blk_far ?_ NB238_231.out _; (with_reducible repeat (first | refine blk_drewN ?_ _ | refine blk_drew ?_ | refine blk_alloc ?_ _)); refine blk_far ?_ NB238_231.out _; (with_reducible repeat (first | refine blk_drewN ?_ _ | refine blk_drew ?_ | refine blk_alloc ?_ _)); refine blk_far ?_ NB238_231.out _; (with_reducible repeat (first | refine blk_drewN ?_ _ | refine blk_drew ?_ | refine blk_alloc ?_ _)); exact BK238.out⟩
                    have n3_ : Aside0 (Below w.heap.size w (((((w43.setCell ⟨gb231, 0, none⟩ (.int .i64 t252)).setCell ⟨gb231, 1, none⟩ (.int .i64 t253)).setCell ⟨gb231, 2, none⟩ (.int .i64 t254)).setCell ⟨gb231, 3, none⟩ (.int .i64 t255)).setCell ⟨gb231, 4, none⟩ (.bool t256))) := ⟨by repeat (first | (with_reducible first | exact HB.out | apply below_alloc | apply pw_below_drewN | apply below_drew1 | refine below_set ?_ GE223.out | refine below_set ?_ GE231.out | refine below_set ?_ GE238.out) | exact HB.out)⟩
                    (try clear BK223)
                    (try clear BK231)
                    (try clear BK238)
                    (try clear HB)
                    generalize (((((w43.setCell ⟨gb231, 0, none⟩ (.int .i64 t252)).setCell ⟨gb231, 1, none⟩ (.int .i64 t253)).setCell ⟨gb231, 2, none⟩ (.int .i64 t254)).setCell ⟨gb231, 3, none⟩ (.int .i64 t255)).setCell ⟨gb231, 4, none⟩ (.bool t256)) = w49 at n0_ n1_ n2_ n3_ ⊢
                    have BK223 := n0_
                    have BK231 := n1_
                    have BK238 := n2_
                    have HB := n3_
                    clear n0_ n1_ n2_ n3_
                    have n0_ := Aside0.mk (blk_drew BK223.out)
                    have n1_ := Aside0.mk (blk_drew BK231.out)
                    have n2_ := Aside0.mk (blk_drew BK238.out)
                    have n3_ := Aside0.mk (below_drew1 HB.out)
                    clear BK223
                    clear BK231
                    clear BK238
                    clear HB
                    have BK223 := n0_
                    have BK231 := n1_
                    have BK238 := n2_
                    have HB := n3_
                    clear n0_ n1_ n2_ n3_
                    have p257 : 0 ≤ (x10_2 : Int) := of_decide_eq_true (by first | (with_reducible assumption) | assumption)
                    have q257 : x10_2 < (l1.length : Int) := of_decide_eq_true (by first | (with_reducible assumption) | assumption)
                    obtain ⟨ad257, e257, hx257_0⟩ := Kd.at_int HR1.out x10_2 p257 q257
                    have hw257_0 := hx257_0
                    obtain rfl : ad240 = ad257 := (by injection e257)
                    replace hx257_0 := (HB.out.cell (World.block_lt_of_cell? w _ hx257_0)).trans hx257_0
                    replace p257 := eq_true p257
                    replace q257 := eq_true q257
                    refine start_ (n := 8) (S := fun w' => w'.cell? ⟨gb223, 0, none⟩ = some (.int .i64 a0_0) ∧ w'.cell? ⟨gb223, 1, none⟩ = some (.int .i64 a0_1) ∧ w'.cell? ⟨gb223, 2, none⟩ = some (.int .i64 a0_2) ∧ w'.cell? ⟨gb238, 0, none⟩ = some (.int .i64 x239000_2) ∧ w'.cell? ⟨gb238, 1, none⟩ = some (.int .i64 x239001_2) ∧ w'.cell? ⟨gb238, 2, none⟩ = some (.int .i64 x239002_2) ∧ w'.cell? ⟨gb238, 3, none⟩ = some (.int .i64 x239003_2) ∧ w'.cell? ⟨gb238, 4, none⟩ = some (.bool x239004_2) ∧ w'.cell? (ad240.add (x10_2).toNat) = some (.int .i64 (rd l1 x10_2))) (ds := [7]) #[false, false, false, false, false, false, false, false] (by kernel_rfl) rfl rfl ⟨(blk_cell BK223.out 0).trans rfl, (blk_cell BK223.out 1).trans rfl, (blk_cell BK223.out 2).trans rfl, (blk_cell BK238.out 0).trans rfl, (blk_cell BK238.out 1).trans rfl, (blk_cell BK238.out 2).trans rfl, (blk_cell BK238.out 3).trans rfl, (blk_cell BK238.out 4).trans rfl, ((HB.out.cell (World.block_lt_of_cell? w _ hw257_0)).trans hw257_0)⟩ (fun hHeld => ?_); refine with_tabW annexlaw17_RtoRuns.tab13 annexlaw17_RtoRuns.bits13 (fun HT_ HW_ => ?_)
                    generalize w49.drew = w50 at BK223 BK231 BK238 HB hx257_0 hHeld ⊢
                    refine pure_ (i := 2) (N := some 59) (v := ?_) (a' := ?_) #[false, false, true, false, false, false, false, false] rfl rfl (any_of HT_.out (by kernel_rfl)) (fun _ _ _ h => h) (Or.inl ⟨by rfl, ?_⟩) ?_ ?_
                    rotate_left
                    · intro w'
                      go_simp
                      with_reducible rfl
                    rotate_left
                    · simp only [Act.put, List.setIfInBounds_toArray, List.set_cons_zero, List.set_cons_succ, i64_w, i32_w]
                      rfl
                    refine pure_ (i := 3) (N := some 60) (v := ?_) (a' := ?_) #[false, false, true, true, false, false, false, false] rfl rfl (any_of HT_.out (by kernel_rfl)) (fun _ _ _ h => h) (Or.inl ⟨by rfl, ?_⟩) ?_ ?_
                    rotate_left
                    · intro w'
                      go_simp
                      with_reducible rfl
                    rotate_left
                    · simp only [Act.put, List.setIfInBounds_toArray, List.set_cons_zero, List.set_cons_succ, i64_w, i32_w]
                      rfl
                    refine pure_ (i := 4) (N := some 61) (v := ?_) (a' := ?_) #[false, false, true, true, true, false, false, false] rfl rfl (any_of HT_.out (by kernel_rfl)) (fun _ _ _ h => h) (Or.inl ⟨by rfl, ?_⟩) ?_ ?_
                    rotate_left
                    · intro w'
                      go_simp
                      with_reducible rfl
                    rotate_left
                    · simp only [Act.put, List.setIfInBounds_toArray, List.set_cons_zero, List.set_cons_succ, i64_w, i32_w]
                      rfl
                    refine take_ (i := 0) (N := some 57) (v := ?_) (a' := ?_) #[true, false, true, true, true, false, false, false] rfl rfl (take_ofW HT_.out HW_.out (by kernel_rfl)) (fun _ _ _ h => h) (Or.inl ⟨by rfl, ?_⟩) hHeld ?_ ?_
                    rotate_left
                    · rintro w' ⟨s0, s1, s2, s3, s4, s5, s6, s7, s8⟩
                      go_simp
                      with_reducible rfl
                    rotate_left
                    · simp only [Act.put, List.setIfInBounds_toArray, List.set_cons_zero, List.set_cons_succ, i64_w, i32_w]
                      rfl
                    refine take_ (i := 1) (N := some 58) (v := ?_) (a' := ?_) #[true, true, true, true, true, false, false, false] rfl rfl (take_ofW HT_.out HW_.out (by kernel_rfl)) (fun _ _ _ h => h) (Or.inl ⟨by rfl, ?_⟩) hHeld ?_ ?_
                    rotate_left
                    · rintro w' ⟨s0, s1, s2, s3, s4, s5, s6, s7, s8⟩
                      go_simp
                      with_reducible rfl
                    rotate_left
                    · simp only [Act.put, List.setIfInBounds_toArray, List.set_cons_zero, List.set_cons_succ, i64_w, i32_w]
                      rfl
                    refine take_ (i := 5) (N := some 62) (v := ?_) (a' := ?_) #[true, true, true, true, true, true, false, false] rfl rfl (take_ofW HT_.out HW_.out (by kernel_rfl)) (fun _ _ _ h => h) (Or.inl ⟨by rfl, ?_⟩) hHeld ?_ ?_
                    rotate_left
                    · rintro w' ⟨s0, s1, s2, s3, s4, s5, s6, s7, s8⟩
                      go_simp
                      with_reducible rfl
                    rotate_left
                    · simp only [Act.put, List.setIfInBounds_toArray, List.set_cons_zero, List.set_cons_succ, i64_w, i32_w]
                      rfl
                    refine one_ (i := 6) (N := some 63) #[true, true, true, true, true, true, true, false] rfl rfl (one_of HT_.out (by kernel_rfl)) (by decide) (fun K hK => ?_)
                    refine goes_ Tryd.func18 (by kernel_rfl) rfl #[.agg #[.int .i64 a0_0, .int .i64 a0_1, .int .i64 a0_2], .agg #[.int .i64 x239000_2, .int .i64 x239001_2, .int .i64 x239002_2, .int .i64 x239003_2, .bool x239004_2], .int .i64 (rd l1 x10_2)] (by rfl) rfl rfl (by (try simp only [List.map_toArray, List.map_cons, List.map_nil]); first | done | rfl | (simp only [List.length_drop, List.length_take]; rfl)) ?_
                    with_reducible refine (annexref17_Sample.calls k2 a0_0 a0_1 a0_2 x239000_2 x239001_2 x239002_2 x239003_2 x239004_2 (rd l1 x10_2) t258 t259 t260 t261 t262 _ A41.out).mono ?_
                    rintro e w51 ⟨rfl, hb⟩
                    refine ⟨_, rfl, ?_⟩
                    have n0_ := Aside0.mk (blk_below (g := gb223) (o := .cells #[.int .i64 a0_0, .int .i64 a0_1, .int .i64 a0_2] 23 (0, 0)) (by (with_reducible repeat (first | refine blk_drewN ?_ _ | refine blk_drew ?_ | refine blk_alloc ?_ _)); exact BK223.out) hb)
                    have n1_ := Aside0.mk (blk_below (g := gb231) (o := .cells #[.int .i64 t252, .int .i64 t253, .int .i64 t254, .int .i64 t255, .bool t256] 26 (0, 0)) (by (with_reducible repeat (first | refine blk_drewN ?_ _ | refine blk_drew ?_ | refine blk_alloc ?_ _)); exact BK231.out) hb)
                    have n2_ := Aside0.mk (blk_below (g := gb238) (o := .cells #[.int .i64 x239000_2, .int .i64 x239001_2, .int .i64 x239002_2, .int .i64 x239003_2, .bool x239004_2] 26 (0, 0)) (by (with_reducible repeat (first | refine blk_drewN ?_ _ | refine blk_drew ?_ | refine blk_alloc ?_ _)); exact BK238.out) hb)
                    have n3_ := Aside0.mk (below_step (by repeat (first | (with_reducible first | exact HB.out | apply below_alloc | apply pw_below_drewN | apply below_drew1 | refine below_set ?_ GE223.out | refine below_set ?_ GE231.out | refine below_set ?_ GE238.out) | exact HB.out)) hb)
                    clear BK223
                    clear BK231
                    clear BK238
                    clear HB
                    have BK223 := n0_
                    have BK231 := n1_
                    have BK238 := n2_
                    have HB := n3_
                    clear n0_ n1_ n2_ n3_
                    (try clear hb)
                    (try clear hb2)
                    (try clear hk)
                    (try clear hi)
                    refine hK.out _ _ ⟨(blk_cell BK223.out 0).trans rfl, (blk_cell BK223.out 1).trans rfl, (blk_cell BK223.out 2).trans rfl, (blk_cell BK238.out 0).trans rfl, (blk_cell BK238.out 1).trans rfl, (blk_cell BK238.out 2).trans rfl, (blk_cell BK238.out 3).trans rfl, (blk_cell BK238.out 4).trans rfl, ((HB.out.cell (World.block_lt_of_cell? w _ hw257_0)).trans hw257_0)⟩ (fun hHeld => ?_)
                    clear hK K
                    refine norm_ (a' := ?_) ?_ ?_
                    rotate_left
                    · show Act.put _ (some 63) _ = _
                      simp only [Act.put, List.setIfInBounds_toArray, List.set_cons_zero, List.set_cons_succ, i64_w, i32_w]
                      rfl
                    refine last_ (i := 7) (N := none) #[true, true, true, true, true, true, true, true] rfl rfl (one_of HT_.out (by kernel_rfl)) (by decide) (fun K hK => ?_)
                    have hs52 : w51.cell? ⟨gb238, 0, none⟩ = some (.int .i64 x239000_2) := (blk_cell BK238.out 0).trans rfl
                    have hfs52 := blk_frozen BK238.out 0
                    have hns52_0 := NB223_238.out
                    have hns52_1 := NB231_238.out
                    have hms52_0 := NB238_223.out
                    have hms52_1 := NB238_231.out
                    have hs53 : w51.cell? ⟨gb238, 1, none⟩ = some (.int .i64 x239001_2) := (blk_cell BK238.out 1).trans rfl
                    have hfs53 := blk_frozen BK238.out 1
                    have hns53_0 := NB223_238.out
                    have hns53_1 := NB231_238.out
                    have hms53_0 := NB238_223.out
                    have hms53_1 := NB238_231.out
                    have hs54 : w51.cell? ⟨gb238, 2, none⟩ = some (.int .i64 x239002_2) := (blk_cell BK238.out 2).trans rfl
                    have hfs54 := blk_frozen BK238.out 2
                    have hns54_0 := NB223_238.out
                    have hns54_1 := NB231_238.out
                    have hms54_0 := NB238_223.out
                    have hms54_1 := NB238_231.out
                    have hs55 : w51.cell? ⟨gb238, 3, none⟩ = some (.int .i64 x239003_2) := (blk_cell BK238.out 3).trans rfl
                    have hfs55 := blk_frozen BK238.out 3
                    have hns55_0 := NB223_238.out
                    have hns55_1 := NB231_238.out
                    have hms55_0 := NB238_223.out
                    have hms55_1 := NB238_231.out
                    have hs56 : w51.cell? ⟨gb238, 4, none⟩ = some (.bool x239004_2) := (blk_cell BK238.out 4).trans rfl
                    have hfs56 := blk_frozen BK238.out 4
                    have hns56_0 := NB223_238.out
                    have hns56_1 := NB231_238.out
                    have hms56_0 := NB238_223.out
                    have hms56_1 := NB238_231.out
                    refine skip_ (w1 := ?_) (by rfl) rfl ?_ ?_
                    rotate_left
                    · go_simp
                      rfl
                    refine hK.out _ _ ?_
                    clear hK K
                    refine done_ (done_of HT_.out (by kernel_rfl)) ?_
                    try go_wp2
                    go_meet
                    case rel => exact ⟨_, (t252), (t253), (t254), (t255), (t256), (t258), (t259), (t260), (t261), (t262), H', ⟨by have := HJ5.out; have := HK2.out; first | omega | exact Nat.le_refl _⟩, ⟨by (with_reducible repeat (first | refine blk_drewN ?_ _ | refine blk_drew ?_ | refine blk_alloc ?_ _)); refine blk_far ?_ NB223_238.out _; (with_reducible repeat (first | refine blk_drewN ?_ _ | refine blk_drew ?_ | refine blk_alloc ?_ _)); refine blk_far ?_ NB223_238.out _; (with_reducible repeat (first | refine blk_drewN ?_ _ | refine blk_drew ?_ | refine blk_alloc ?_ _)); refine blk_far ?_ NB223_238.out _; (with_reducible repeat (first | refine blk_drewN ?_ _ | refine blk_drew ?_ | refine blk_alloc ?_ _)); refine blk_far ?_ NB223_238.out _; (with_reducible repeat (first | refine blk_drewN ?_ _ | refine blk_drew ?_ | refine blk_alloc ?_ _)); refine blk_far ?_ NB223_238.out _; (with_reducible repeat (first | refine blk_drewN ?_ _ | refine blk_drew ?_ | refine blk_alloc ?_ _)); exact BK223.out⟩, ⟨by (with_reducible repeat (first | refine blk_drewN ?_ _ | refine blk_drew ?_ | refine blk_alloc ?_ _)); refine blk_far ?_ NB231_238.out _; (with_reducible repeat (first | refine blk_drewN ?_ _ | refine blk_drew ?_ | refine blk_alloc ?_ _)); refine blk_far ?_ NB231_238.out _; (with_reducible repeat (first | refine blk_drewN ?_ _ | refine blk_drew ?_ | refine blk_alloc ?_ _)); refine blk_far ?_ NB231_238.out _; (with_reducible repeat (first | refine blk_drewN ?_ _ | refine blk_drew ?_ | refine blk_alloc ?_ _)); refine blk_far ?_ NB231_238.out _; (with_reducible repeat (first | refine blk_drewN ?_ _ | refine blk_drew ?_ | refine blk_alloc ?_ _)); refine blk_far ?_ NB231_238.out _; (with_reducible repeat (first | refine blk_drewN ?_ _ | refine blk_drew ?_ | refine blk_alloc ?_ _)); exact BK231.out⟩, ⟨by (with_reducible repeat (first | refine blk_drewN ?_ _ | refine blk_drew ?_ | refine blk_alloc ?_ _)); refine blk_put (cs := #[.int .i64 t258, .int .i64 t259, .int .i64 t260, .int .i64 t261, .bool x239004_2]) ?_ 4 _ rfl; (with_reducible repeat (first | refine blk_drewN ?_ _ | refine blk_drew ?_ | refine blk_alloc ?_ _)); refine blk_put (cs := #[.int .i64 t258, .int .i64 t259, .int .i64 t260, .int .i64 x239003_2, .bool x239004_2]) ?_ 3 _ rfl; (with_reducible repeat (first | refine blk_drewN ?_ _ | refine blk_drew ?_ | refine blk_alloc ?_ _)); refine blk_put (cs := #[.int .i64 t258, .int .i64 t259, .int .i64 x239002_2, .int .i64 x239003_2, .bool x239004_2]) ?_ 2 _ rfl; (with_reducible repeat (first | refine blk_drewN ?_ _ | refine blk_drew ?_ | refine blk_alloc ?_ _)); refine blk_put (cs := #[.int .i64 t258, .int .i64 x239001_2, .int .i64 x239002_2, .int .i64 x239003_2, .bool x239004_2]) ?_ 1 _ rfl; (with_reducible repeat (first | refine blk_drewN ?_ _ | refine blk_drew ?_ | refine blk_alloc ?_ _)); refine blk_put (cs := #[.int .i64 x239000_2, .int .i64 x239001_2, .int .i64 x239002_2, .int .i64 x239003_2, .bool x239004_2]) ?_ 0 _ rfl; (with_reducible repeat (first | refine blk_drewN ?_ _ | refine blk_drew ?_ | refine blk_alloc ?_ _)); exact BK238.out⟩, ⟨by repeat (first | (with_reducible first | exact HB.out | apply below_alloc | apply pw_below_drewN | apply below_drew1 | refine below_set ?_ GE223.out | refine below_set ?_ GE231.out | refine below_set ?_ GE238.out) | exact HB.out)⟩⟩
                case rest =>
                  clear HC25
                  try clear c1
                  try clear c2
                  try clear p2
                  try clear q2
                  try clear hx2
                  try clear c3
                  try clear c7
                  try clear c12
                  try clear c13
                  try clear c14
                  try clear c17
                  try clear c18
                  try clear c19
                  try clear c20
                  try clear c22
                  try clear c23
                  try clear c23b0
                  try clear c24
                  try clear c24b0
                  try clear p24
                  try clear q24
                  try clear hx24
                  try clear p25
                  try clear q25
                  try clear hx25
                  try clear c26
                  try clear c26b0
                  try clear c29
                  try clear c30
                  try clear c32
                  try clear hcz13_0
                  try clear hcz13_1
                  try clear hcz13_2
                  try clear hcz13_3
                  try clear hcz13_4
                  try clear hcz14_0
                  try clear hcz14_1
                  try clear hcz14_2
                  try clear hcz19_0
                  try clear hcz19_1
                  try clear hcz19_2
                  try clear hcz19_3
                  try clear hcz19_4
                  try clear hcz31_0
                  try clear hcz31_1
                  try clear hcz31_2
                  try clear hcz33_0
                  try clear hcz33_1
                  try clear hcz33_2
                  try clear hcz33_3
                  try clear hcz33_4
                  try clear hcz35_0
                  try clear hcz35_1
                  try clear hcz35_2
                  try clear hcz35_3
                  try clear hcz35_4
                  try clear hcz36_0
                  try clear hcz36_1
                  try clear hcz36_2
                  try clear hcz37_0
                  try clear hcz37_1
                  try clear hcz37_2
                  try clear hcz37_3
                  try clear hcz37_4
                  try clear hcz39_0
                  try clear hcz39_1
                  try clear hcz39_2
                  try clear hcz39_3
                  try clear hcz39_4
                  try clear hcz9_0
                  try clear hcz9_1
                  try clear hcz9_2
                  try clear hfz13_0
                  try clear hfz13_1
                  try clear hfz13_2
                  try clear hfz13_3
                  try clear hfz13_4
                  try clear hfz14_0
                  try clear hfz14_1
                  try clear hfz14_2
                  try clear hfz19_0
                  try clear hfz19_1
                  try clear hfz19_2
                  try clear hfz19_3
                  try clear hfz19_4
                  try clear hfz31_0
                  try clear hfz31_1
                  try clear hfz31_2
                  try clear hfz33_0
                  try clear hfz33_1
                  try clear hfz33_2
                  try clear hfz33_3
                  try clear hfz33_4
                  try clear hfz35_0
                  try clear hfz35_1
                  try clear hfz35_2
                  try clear hfz35_3
                  try clear hfz35_4
                  try clear hfz36_0
                  try clear hfz36_1
                  try clear hfz36_2
                  try clear hfz37_0
                  try clear hfz37_1
                  try clear hfz37_2
                  try clear hfz37_3
                  try clear hfz37_4
                  try clear hfz39_0
                  try clear hfz39_1
                  try clear hfz39_2
                  try clear hfz39_3
                  try clear hfz39_4
                  try clear hfz9_0
                  try clear hfz9_1
                  try clear hfz9_2
                  try clear hx240_0
                  try clear hx251_0
                  try clear hx257_0
                  try clear p2
                  try clear p240
                  try clear p251
                  try clear p257
                  try clear q240
                  try clear q251
                  try clear q257
                  obtain ⟨kq, x232000_24, x232001_24, x232002_24, x232003_24, x232004_24, x239000_24, x239001_24, x239002_24, x239003_24, x239004_24, HA, HJ24, BK223, BK231, BK238, HB⟩ := hcut
                  cases kq with
                  | zero => exact absurd HA.out (by simp [annexlaw17_RtoRuns.j2])
                  | succ kj24 =>
                    have H := HA.out
                    clear HA
                    simp only [annexlaw17_RtoRuns.j2] at H
                    replace H := Option.bind_eq_some_iff.mp H
                    obtain ⟨t263, A570, H⟩ := H
                    replace H : ((rto_Wait.f a0_0 a0_1 a0_2 x232000_24 x232001_24 x232002_24 x232003_24 x232004_24).bind fun t264 => ((annexref17_Wait.f kj24 a0_0 a0_1 a0_2 x239000_24 x239001_24 x239002_24 x239003_24 x239004_24).bind fun t265 => (if t263 = true then (if t264 = t265 then (annexlaw17_RtoRuns.l0 kj24 l1 (wrap64 (x10_2 + 1)) a0_0 a0_1 a0_2 x232000_24 x232001_24 x232002_24 x232003_24 x232004_24 x239000_24 x239001_24 x239002_24 x239003_24 x239004_24) else (some false)) else (some false)))) = some r := H
                    have A57 := Aside0.mk A570
                    clear A570
                    replace H := Option.bind_eq_some_iff.mp H
                    obtain ⟨t264, A580, H⟩ := H
                    replace H : ((annexref17_Wait.f kj24 a0_0 a0_1 a0_2 x239000_24 x239001_24 x239002_24 x239003_24 x239004_24).bind fun t265 => (if t263 = true then (if t264 = t265 then (annexlaw17_RtoRuns.l0 kj24 l1 (wrap64 (x10_2 + 1)) a0_0 a0_1 a0_2 x232000_24 x232001_24 x232002_24 x232003_24 x232004_24 x239000_24 x239001_24 x239002_24 x239003_24 x239004_24) else (some false)) else (some false))) = some r := H
                    have A58 := Aside0.mk A580
                    clear A580
                    replace H := Option.bind_eq_some_iff.mp H
                    obtain ⟨t265, A590, H⟩ := H
                    replace H : (if t263 = true then (if t264 = t265 then (annexlaw17_RtoRuns.l0 kj24 l1 (wrap64 (x10_2 + 1)) a0_0 a0_1 a0_2 x232000_24 x232001_24 x232002_24 x232003_24 x232004_24 x239000_24 x239001_24 x239002_24 x239003_24 x239004_24) else (some false)) else (some false)) = some r := H
                    have A59 := Aside0.mk A590
                    clear A590
                    by_cases c60 : t263 = true
                    · subst c60
                      have H1 : (if t264 = t265 then (annexlaw17_RtoRuns.l0 kj24 l1 (wrap64 (x10_2 + 1)) a0_0 a0_1 a0_2 x232000_24 x232001_24 x232002_24 x232003_24 x232004_24 x239000_24 x239001_24 x239002_24 x239003_24 x239004_24) else (some false)) = some r := by rw [if_pos rfl] at H; exact H
                      clear H
                      have H := H1
                      clear H1
                      by_cases c61 : t264 = t265
                      · rw [if_pos c61] at H
                        have c61b0 : (t264 == t265) = true := beq_iff_eq.mpr c61
                        have c61b1 : (t264 != t265) = false := bne_eq_false_iff_eq.mpr c61
                        clear c61
                        have H' := Aside0.mk H
                        clear H
                        have hnb62 := NB231_223.out
                        have hnc62 := NB223_231.out
                        have hnb63 := NB231_238.out
                        have hnc63 := NB238_231.out
                        have hcz64_0 : wc.cell? ⟨gb231, 0, none⟩ = some (.int .i64 x232000_24) := (blk_cell BK231.out 0).trans rfl
                        have hcz64_1 : wc.cell? ⟨gb231, 1, none⟩ = some (.int .i64 x232001_24) := (blk_cell BK231.out 1).trans rfl
                        have hcz64_2 : wc.cell? ⟨gb231, 2, none⟩ = some (.int .i64 x232002_24) := (blk_cell BK231.out 2).trans rfl
                        have hcz64_3 : wc.cell? ⟨gb231, 3, none⟩ = some (.int .i64 x232003_24) := (blk_cell BK231.out 3).trans rfl
                        have hcz64_4 : wc.cell? ⟨gb231, 4, none⟩ = some (.bool x232004_24) := (blk_cell BK231.out 4).trans rfl
                        have hfz64_0 := blk_frozen BK231.out 0
                        have hfz64_1 := blk_frozen BK231.out 1
                        have hfz64_2 := blk_frozen BK231.out 2
                        have hfz64_3 := blk_frozen BK231.out 3
                        have hfz64_4 := blk_frozen BK231.out 4
                        have hnb65 := NB238_223.out
                        have hnc65 := NB223_238.out
                        have hcz66_0 : wc.cell? ⟨gb238, 0, none⟩ = some (.int .i64 x239000_24) := (blk_cell BK238.out 0).trans rfl
                        have hcz66_1 : wc.cell? ⟨gb238, 1, none⟩ = some (.int .i64 x239001_24) := (blk_cell BK238.out 1).trans rfl
                        have hcz66_2 : wc.cell? ⟨gb238, 2, none⟩ = some (.int .i64 x239002_24) := (blk_cell BK238.out 2).trans rfl
                        have hcz66_3 : wc.cell? ⟨gb238, 3, none⟩ = some (.int .i64 x239003_24) := (blk_cell BK238.out 3).trans rfl
                        have hcz66_4 : wc.cell? ⟨gb238, 4, none⟩ = some (.bool x239004_24) := (blk_cell BK238.out 4).trans rfl
                        have hfz66_0 := blk_frozen BK238.out 0
                        have hfz66_1 := blk_frozen BK238.out 1
                        have hfz66_2 := blk_frozen BK238.out 2
                        have hfz66_3 := blk_frozen BK238.out 3
                        have hfz66_4 := blk_frozen BK238.out 4
                        go_wp2_with (first | ((with_reducible refine gate_callee (f := 15) rfl ?_); refine goesL_ (some 66) rfl rfl Tryd.func15 (by kernel_rfl) rfl #[.agg #[.int .i64 x232000_24, .int .i64 x232001_24, .int .i64 x232002_24, .int .i64 x232003_24, .bool x232004_24], .agg #[.int .i64 x239000_24, .int .i64 x239001_24, .int .i64 x239002_24, .int .i64 x239003_24, .bool x239004_24]] rfl (by (try simp only [List.map_toArray, List.map_cons, List.map_nil]); first | done | rfl | (simp only [List.length_drop, List.length_take]; rfl)) ?_; (with_reducible refine (annexref_SameEst.calls x232000_24 x232001_24 x232002_24 x232003_24 x232004_24 x239000_24 x239001_24 x239002_24 x239003_24 x239004_24 true _ A57.out).mono ?_); rintro e w67 ⟨rfl, hb⟩; refine ⟨_, rfl, ?_⟩; have n0_ := Aside0.mk (blk_below (g := gb223) (o := .cells #[.int .i64 a0_0, .int .i64 a0_1, .int .i64 a0_2] 23 (0, 0)) (by (with_reducible repeat (first | refine blk_drewN ?_ _ | refine blk_drew ?_ | refine blk_alloc ?_ _)); exact BK223.out) hb); have n1_ := Aside0.mk (blk_below (g := gb231) (o := .cells #[.int .i64 x232000_24, .int .i64 x232001_24, .int .i64 x232002_24, .int .i64 x232003_24, .bool x232004_24] 26 (0, 0)) (by (with_reducible repeat (first | refine blk_drewN ?_ _ | refine blk_drew ?_ | refine blk_alloc ?_ _)); exact BK231.out) hb); have n2_ := Aside0.mk (blk_below (g := gb238) (o := .cells #[.int .i64 x239000_24, .int .i64 x239001_24, .int .i64 x239002_24, .int .i64 x239003_24, .bool x239004_24] 26 (0, 0)) (by (with_reducible repeat (first | refine blk_drewN ?_ _ | refine blk_drew ?_ | refine blk_alloc ?_ _)); exact BK238.out) hb); have n3_ := Aside0.mk (below_step (by repeat (first | (with_reducible first | exact HB.out | apply below_alloc | apply pw_below_drewN | apply below_drew1 | refine below_set ?_ GE223.out | refine below_set ?_ GE231.out | refine below_set ?_ GE238.out) | exact HB.out)) hb); clear BK223; clear BK231; clear BK238; clear HB; have BK223 := n0_; have BK231 := n1_; have BK238 := n2_; have HB := n3_; clear n0_ n1_ n2_ n3_; (try clear hb); (try clear hb2); (try clear hk); (try clear hi); have hcz68_0 : w67.cell? ⟨gb223, 0, none⟩ = some (.int .i64 a0_0) := (blk_cell BK223.out 0).trans rfl; have hcz68_1 : w67.cell? ⟨gb223, 1, none⟩ = some (.int .i64 a0_1) := (blk_cell BK223.out 1).trans rfl; have hcz68_2 : w67.cell? ⟨gb223, 2, none⟩ = some (.int .i64 a0_2) := (blk_cell BK223.out 2).trans rfl; have hfz68_0 := blk_frozen BK223.out 0; have hfz68_1 := blk_frozen BK223.out 1; have hfz68_2 := blk_frozen BK223.out 2; have hcz69_0 : w67.cell? ⟨gb231, 0, none⟩ = some (.int .i64 x232000_24) := (blk_cell BK231.out 0).trans rfl; have hcz69_1 : w67.cell? ⟨gb231, 1, none⟩ = some (.int .i64 x232001_24) := (blk_cell BK231.out 1).trans rfl; have hcz69_2 : w67.cell? ⟨gb231, 2, none⟩ = some (.int .i64 x232002_24) := (blk_cell BK231.out 2).trans rfl; have hcz69_3 : w67.cell? ⟨gb231, 3, none⟩ = some (.int .i64 x232003_24) := (blk_cell BK231.out 3).trans rfl; have hcz69_4 : w67.cell? ⟨gb231, 4, none⟩ = some (.bool x232004_24) := (blk_cell BK231.out 4).trans rfl; have hfz69_0 := blk_frozen BK231.out 0; have hfz69_1 := blk_frozen BK231.out 1; have hfz69_2 := blk_frozen BK231.out 2; have hfz69_3 := blk_frozen BK231.out 3; have hfz69_4 := blk_frozen BK231.out 4) | ((with_reducible refine gate_callee (f := 21) rfl ?_); refine goesL_ (some 69) rfl rfl Tryd.func21 (by kernel_rfl) rfl #[.agg #[.int .i64 a0_0, .int .i64 a0_1, .int .i64 a0_2], .agg #[.int .i64 x232000_24, .int .i64 x232001_24, .int .i64 x232002_24, .int .i64 x232003_24, .bool x232004_24]] rfl (by (try simp only [List.map_toArray, List.map_cons, List.map_nil]); first | done | rfl | (simp only [List.length_drop, List.length_take]; rfl)) ?_; (with_reducible refine (rto_Wait.calls a0_0 a0_1 a0_2 x232000_24 x232001_24 x232002_24 x232003_24 x232004_24 t264 _ ?side1 A58.out).mono ?_); (case side1 => exact Tied.below HG.out (by repeat (first | (with_reducible first | exact HB.out | apply below_alloc | apply pw_below_drewN | apply below_drew1 | refine below_set ?_ GE223.out | refine below_set ?_ GE231.out | refine below_set ?_ GE238.out) | exact HB.out))); rintro e w70 ⟨rfl, hb⟩; refine ⟨_, rfl, ?_⟩; have n0_ := Aside0.mk (blk_below (g := gb223) (o := .cells #[.int .i64 a0_0, .int .i64 a0_1, .int .i64 a0_2] 23 (0, 0)) (by (with_reducible repeat (first | refine blk_drewN ?_ _ | refine blk_drew ?_ | refine blk_alloc ?_ _)); exact BK223.out) hb); have n1_ := Aside0.mk (blk_below (g := gb231) (o := .cells #[.int .i64 x232000_24, .int .i64 x232001_24, .int .i64 x232002_24, .int .i64 x232003_24, .bool x232004_24] 26 (0, 0)) (by (with_reducible repeat (first | refine blk_drewN ?_ _ | refine blk_drew ?_ | refine blk_alloc ?_ _)); exact BK231.out) hb); have n2_ := Aside0.mk (blk_below (g := gb238) (o := .cells #[.int .i64 x239000_24, .int .i64 x239001_24, .int .i64 x239002_24, .int .i64 x239003_24, .bool x239004_24] 26 (0, 0)) (by (with_reducible repeat (first | refine blk_drewN ?_ _ | refine blk_drew ?_ | refine blk_alloc ?_ _)); exact BK238.out) hb); have n3_ := Aside0.mk (below_step (by repeat (first | (with_reducible first | exact HB.out | apply below_alloc | apply pw_below_drewN | apply below_drew1 | refine below_set ?_ GE223.out | refine below_set ?_ GE231.out | refine below_set ?_ GE238.out) | exact HB.out)) hb); clear BK223; clear BK231; clear BK238; clear HB; have BK223 := n0_; have BK231 := n1_; have BK238 := n2_; have HB := n3_; clear n0_ n1_ n2_ n3_; (try clear hb); (try clear hb2); (try clear hk); (try clear hi); have hcz71_0 : w70.cell? ⟨gb223, 0, none⟩ = some (.int .i64 a0_0) := (blk_cell BK223.out 0).trans rfl; have hcz71_1 : w70.cell? ⟨gb223, 1, none⟩ = some (.int .i64 a0_1) := (blk_cell BK223.out 1).trans rfl; have hcz71_2 : w70.cell? ⟨gb223, 2, none⟩ = some (.int .i64 a0_2) := (blk_cell BK223.out 2).trans rfl; have hfz71_0 := blk_frozen BK223.out 0; have hfz71_1 := blk_frozen BK223.out 1; have hfz71_2 := blk_frozen BK223.out 2; have hcz72_0 : w70.cell? ⟨gb238, 0, none⟩ = some (.int .i64 x239000_24) := (blk_cell BK238.out 0).trans rfl; have hcz72_1 : w70.cell? ⟨gb238, 1, none⟩ = some (.int .i64 x239001_24) := (blk_cell BK238.out 1).trans rfl; have hcz72_2 : w70.cell? ⟨gb238, 2, none⟩ = some (.int .i64 x239002_24) := (blk_cell BK238.out 2).trans rfl; have hcz72_3 : w70.cell? ⟨gb238, 3, none⟩ = some (.int .i64 x239003_24) := (blk_cell BK238.out 3).trans rfl; have hcz72_4 : w70.cell? ⟨gb238, 4, none⟩ = some (.bool x239004_24) := (blk_cell BK238.out 4).trans rfl; have hfz72_0 := blk_frozen BK238.out 0; have hfz72_1 := blk_frozen BK238.out 1; have hfz72_2 := blk_frozen BK238.out 2; have hfz72_3 := blk_frozen BK238.out 3; have hfz72_4 := blk_frozen BK238.out 4) | ((with_reducible refine gate_callee (f := 22) rfl ?_); refine goesL_ (some 72) rfl rfl Tryd.func22 (by kernel_rfl) rfl #[.agg #[.int .i64 a0_0, .int .i64 a0_1, .int .i64 a0_2], .agg #[.int .i64 x239000_24, .int .i64 x239001_24, .int .i64 x239002_24, .int .i64 x239003_24, .bool x239004_24]] rfl (by (try simp only [List.map_toArray, List.map_cons, List.map_nil]); first | done | rfl | (simp only [List.length_drop, List.length_take]; rfl)) ?_; (with_reducible refine (annexref17_Wait.calls kj24 a0_0 a0_1 a0_2 x239000_24 x239001_24 x239002_24 x239003_24 x239004_24 t265 _ A59.out).mono ?_); rintro e w73 ⟨rfl, hb⟩; refine ⟨_, rfl, ?_⟩; have n0_ := Aside0.mk (blk_below (g := gb223) (o := .cells #[.int .i64 a0_0, .int .i64 a0_1, .int .i64 a0_2] 23 (0, 0)) (by (with_reducible repeat (first | refine blk_drewN ?_ _ | refine blk_drew ?_ | refine blk_alloc ?_ _)); exact BK223.out) hb); have n1_ := Aside0.mk (blk_below (g := gb231) (o := .cells #[.int .i64 x232000_24, .int .i64 x232001_24, .int .i64 x232002_24, .int .i64 x232003_24, .bool x232004_24] 26 (0, 0)) (by (with_reducible repeat (first | refine blk_drewN ?_ _ | refine blk_drew ?_ | refine blk_alloc ?_ _)); exact BK231.out) hb); have n2_ := Aside0.mk (blk_below (g := gb238) (o := .cells #[.int .i64 x239000_24, .int .i64 x239001_24, .int .i64 x239002_24, .int .i64 x239003_24, .bool x239004_24] 26 (0, 0)) (by (with_reducible repeat (first | refine blk_drewN ?_ _ | refine blk_drew ?_ | refine blk_alloc ?_ _)); exact BK238.out) hb); have n3_ := Aside0.mk (below_step (by repeat (first | (with_reducible first | exact HB.out | apply below_alloc | apply pw_below_drewN | apply below_drew1 | refine below_set ?_ GE223.out | refine below_set ?_ GE231.out | refine below_set ?_ GE238.out) | exact HB.out)) hb); clear BK223; clear BK231; clear BK238; clear HB; have BK223 := n0_; have BK231 := n1_; have BK238 := n2_; have HB := n3_; clear n0_ n1_ n2_ n3_; (try clear hb); (try clear hb2); (try clear hk); (try clear hi)))
                        go_roundg kj24
                        case measure => have := HJ5.out; have := HK2.out; have := HJ24.out; omega
                        case rel => exact ⟨(wrap64 (x10_2 + 1)), (x232000_24), (x232001_24), (x232002_24), (x232003_24), (x232004_24), (x239000_24), (x239001_24), (x239002_24), (x239003_24), (x239004_24), (by first | rfl | (simp; done) | (simp [*]; done)), H', ⟨by have := HJ5.out; have := HK2.out; have := HJ24.out; omega⟩, ⟨by (with_reducible repeat (first | refine blk_drewN ?_ _ | refine blk_drew ?_ | refine blk_alloc ?_ _)); exact BK223.out⟩, ⟨by (with_reducible repeat (first | refine blk_drewN ?_ _ | refine blk_drew ?_ | refine blk_alloc ?_ _)); exact BK231.out⟩, ⟨by (with_reducible repeat (first | refine blk_drewN ?_ _ | refine blk_drew ?_ | refine blk_alloc ?_ _)); exact BK238.out⟩, ⟨by repeat (first | (with_reducible first | exact HB.out | apply below_alloc | apply pw_below_drewN | apply below_drew1 | refine below_set ?_ GE223.out | refine below_set ?_ GE231.out | refine below_set ?_ GE238.out) | exact HB.out)⟩⟩
                      · rw [if_neg c61] at H
                        have c61b0 : (t264 == t265) = false := beq_eq_false_iff_ne.mpr c61
                        have c61b1 : (t264 != t265) = true := bne_iff_ne.mpr c61
                        obtain rfl := Option.some.inj H
                        have hnb74 := NB231_223.out
                        have hnc74 := NB223_231.out
                        have hnb75 := NB231_238.out
                        have hnc75 := NB238_231.out
                        have hcz76_0 : wc.cell? ⟨gb231, 0, none⟩ = some (.int .i64 x232000_24) := (blk_cell BK231.out 0).trans rfl
                        have hcz76_1 : wc.cell? ⟨gb231, 1, none⟩ = some (.int .i64 x232001_24) := (blk_cell BK231.out 1).trans rfl
                        have hcz76_2 : wc.cell? ⟨gb231, 2, none⟩ = some (.int .i64 x232002_24) := (blk_cell BK231.out 2).trans rfl
                        have hcz76_3 : wc.cell? ⟨gb231, 3, none⟩ = some (.int .i64 x232003_24) := (blk_cell BK231.out 3).trans rfl
                        have hcz76_4 : wc.cell? ⟨gb231, 4, none⟩ = some (.bool x232004_24) := (blk_cell BK231.out 4).trans rfl
                        have hfz76_0 := blk_frozen BK231.out 0
                        have hfz76_1 := blk_frozen BK231.out 1
                        have hfz76_2 := blk_frozen BK231.out 2
                        have hfz76_3 := blk_frozen BK231.out 3
                        have hfz76_4 := blk_frozen BK231.out 4
                        have hnb77 := NB238_223.out
                        have hnc77 := NB223_238.out
                        have hcz78_0 : wc.cell? ⟨gb238, 0, none⟩ = some (.int .i64 x239000_24) := (blk_cell BK238.out 0).trans rfl
                        have hcz78_1 : wc.cell? ⟨gb238, 1, none⟩ = some (.int .i64 x239001_24) := (blk_cell BK238.out 1).trans rfl
                        have hcz78_2 : wc.cell? ⟨gb238, 2, none⟩ = some (.int .i64 x239002_24) := (blk_cell BK238.out 2).trans rfl
                        have hcz78_3 : wc.cell? ⟨gb238, 3, none⟩ = some (.int .i64 x239003_24) := (blk_cell BK238.out 3).trans rfl
                        have hcz78_4 : wc.cell? ⟨gb238, 4, none⟩ = some (.bool x239004_24) := (blk_cell BK238.out 4).trans rfl
                        have hfz78_0 := blk_frozen BK238.out 0
                        have hfz78_1 := blk_frozen BK238.out 1
                        have hfz78_2 := blk_frozen BK238.out 2
                        have hfz78_3 := blk_frozen BK238.out 3
                        have hfz78_4 := blk_frozen BK238.out 4
                        go_wp2_with (first | ((with_reducible refine gate_callee (f := 15) rfl ?_); refine goesL_ (some 66) rfl rfl Tryd.func15 (by kernel_rfl) rfl #[.agg #[.int .i64 x232000_24, .int .i64 x232001_24, .int .i64 x232002_24, .int .i64 x232003_24, .bool x232004_24], .agg #[.int .i64 x239000_24, .int .i64 x239001_24, .int .i64 x239002_24, .int .i64 x239003_24, .bool x239004_24]] rfl (by (try simp only [List.map_toArray, List.map_cons, List.map_nil]); first | done | rfl | (simp only [List.length_drop, List.length_take]; rfl)) ?_; (with_reducible refine (annexref_SameEst.calls x232000_24 x232001_24 x232002_24 x232003_24 x232004_24 x239000_24 x239001_24 x239002_24 x239003_24 x239004_24 true _ A57.out).mono ?_); rintro e w79 ⟨rfl, hb⟩; refine ⟨_, rfl, ?_⟩; have n0_ := Aside0.mk (blk_below (g := gb223) (o := .cells #[.int .i64 a0_0, .int .i64 a0_1, .int .i64 a0_2] 23 (0, 0)) (by (with_reducible repeat (first | refine blk_drewN ?_ _ | refine blk_drew ?_ | refine blk_alloc ?_ _)); exact BK223.out) hb); have n1_ := Aside0.mk (blk_below (g := gb231) (o := .cells #[.int .i64 x232000_24, .int .i64 x232001_24, .int .i64 x232002_24, .int .i64 x232003_24, .bool x232004_24] 26 (0, 0)) (by (with_reducible repeat (first | refine blk_drewN ?_ _ | refine blk_drew ?_ | refine blk_alloc ?_ _)); exact BK231.out) hb); have n2_ := Aside0.mk (blk_below (g := gb238) (o := .cells #[.int .i64 x239000_24, .int .i64 x239001_24, .int .i64 x239002_24, .int .i64 x239003_24, .bool x239004_24] 26 (0, 0)) (by (with_reducible repeat (first | refine blk_drewN ?_ _ | refine blk_drew ?_ | refine blk_alloc ?_ _)); exact BK238.out) hb); have n3_ := Aside0.mk (below_step (by repeat (first | (with_reducible first | exact HB.out | apply below_alloc | apply pw_below_drewN | apply below_drew1 | refine below_set ?_ GE223.out | refine below_set ?_ GE231.out | refine below_set ?_ GE238.out) | exact HB.out)) hb); clear BK223; clear BK231; clear BK238; clear HB; have BK223 := n0_; have BK231 := n1_; have BK238 := n2_; have HB := n3_; clear n0_ n1_ n2_ n3_; (try clear hb); (try clear hb2); (try clear hk); (try clear hi); have hcz80_0 : w79.cell? ⟨gb223, 0, none⟩ = some (.int .i64 a0_0) := (blk_cell BK223.out 0).trans rfl; have hcz80_1 : w79.cell? ⟨gb223, 1, none⟩ = some (.int .i64 a0_1) := (blk_cell BK223.out 1).trans rfl; have hcz80_2 : w79.cell? ⟨gb223, 2, none⟩ = some (.int .i64 a0_2) := (blk_cell BK223.out 2).trans rfl; have hfz80_0 := blk_frozen BK223.out 0; have hfz80_1 := blk_frozen BK223.out 1; have hfz80_2 := blk_frozen BK223.out 2; have hcz81_0 : w79.cell? ⟨gb231, 0, none⟩ = some (.int .i64 x232000_24) := (blk_cell BK231.out 0).trans rfl; have hcz81_1 : w79.cell? ⟨gb231, 1, none⟩ = some (.int .i64 x232001_24) := (blk_cell BK231.out 1).trans rfl; have hcz81_2 : w79.cell? ⟨gb231, 2, none⟩ = some (.int .i64 x232002_24) := (blk_cell BK231.out 2).trans rfl; have hcz81_3 : w79.cell? ⟨gb231, 3, none⟩ = some (.int .i64 x232003_24) := (blk_cell BK231.out 3).trans rfl; have hcz81_4 : w79.cell? ⟨gb231, 4, none⟩ = some (.bool x232004_24) := (blk_cell BK231.out 4).trans rfl; have hfz81_0 := blk_frozen BK231.out 0; have hfz81_1 := blk_frozen BK231.out 1; have hfz81_2 := blk_frozen BK231.out 2; have hfz81_3 := blk_frozen BK231.out 3; have hfz81_4 := blk_frozen BK231.out 4) | ((with_reducible refine gate_callee (f := 21) rfl ?_); refine goesL_ (some 69) rfl rfl Tryd.func21 (by kernel_rfl) rfl #[.agg #[.int .i64 a0_0, .int .i64 a0_1, .int .i64 a0_2], .agg #[.int .i64 x232000_24, .int .i64 x232001_24, .int .i64 x232002_24, .int .i64 x232003_24, .bool x232004_24]] rfl (by (try simp only [List.map_toArray, List.map_cons, List.map_nil]); first | done | rfl | (simp only [List.length_drop, List.length_take]; rfl)) ?_; (with_reducible refine (rto_Wait.calls a0_0 a0_1 a0_2 x232000_24 x232001_24 x232002_24 x232003_24 x232004_24 t264 _ ?side1 A58.out).mono ?_); (case side1 => exact Tied.below HG.out (by repeat (first | (with_reducible first | exact HB.out | apply below_alloc | apply pw_below_drewN | apply below_drew1 | refine below_set ?_ GE223.out | refine below_set ?_ GE231.out | refine below_set ?_ GE238.out) | exact HB.out))); rintro e w82 ⟨rfl, hb⟩; refine ⟨_, rfl, ?_⟩; have n0_ := Aside0.mk (blk_below (g := gb223) (o := .cells #[.int .i64 a0_0, .int .i64 a0_1, .int .i64 a0_2] 23 (0, 0)) (by (with_reducible repeat (first | refine blk_drewN ?_ _ | refine blk_drew ?_ | refine blk_alloc ?_ _)); exact BK223.out) hb); have n1_ := Aside0.mk (blk_below (g := gb231) (o := .cells #[.int .i64 x232000_24, .int .i64 x232001_24, .int .i64 x232002_24, .int .i64 x232003_24, .bool x232004_24] 26 (0, 0)) (by (with_reducible repeat (first | refine blk_drewN ?_ _ | refine blk_drew ?_ | refine blk_alloc ?_ _)); exact BK231.out) hb); have n2_ := Aside0.mk (blk_below (g := gb238) (o := .cells #[.int .i64 x239000_24, .int .i64 x239001_24, .int .i64 x239002_24, .int .i64 x239003_24, .bool x239004_24] 26 (0, 0)) (by (with_reducible repeat (first | refine blk_drewN ?_ _ | refine blk_drew ?_ | refine blk_alloc ?_ _)); exact BK238.out) hb); have n3_ := Aside0.mk (below_step (by repeat (first | (with_reducible first | exact HB.out | apply below_alloc | apply pw_below_drewN | apply below_drew1 | refine below_set ?_ GE223.out | refine below_set ?_ GE231.out | refine below_set ?_ GE238.out) | exact HB.out)) hb); clear BK223; clear BK231; clear BK238; clear HB; have BK223 := n0_; have BK231 := n1_; have BK238 := n2_; have HB := n3_; clear n0_ n1_ n2_ n3_; (try clear hb); (try clear hb2); (try clear hk); (try clear hi); have hcz83_0 : w82.cell? ⟨gb223, 0, none⟩ = some (.int .i64 a0_0) := (blk_cell BK223.out 0).trans rfl; have hcz83_1 : w82.cell? ⟨gb223, 1, none⟩ = some (.int .i64 a0_1) := (blk_cell BK223.out 1).trans rfl; have hcz83_2 : w82.cell? ⟨gb223, 2, none⟩ = some (.int .i64 a0_2) := (blk_cell BK223.out 2).trans rfl; have hfz83_0 := blk_frozen BK223.out 0; have hfz83_1 := blk_frozen BK223.out 1; have hfz83_2 := blk_frozen BK223.out 2; have hcz84_0 : w82.cell? ⟨gb238, 0, none⟩ = some (.int .i64 x239000_24) := (blk_cell BK238.out 0).trans rfl; have hcz84_1 : w82.cell? ⟨gb238, 1, none⟩ = some (.int .i64 x239001_24) := (blk_cell BK238.out 1).trans rfl; have hcz84_2 : w82.cell? ⟨gb238, 2, none⟩ = some (.int .i64 x239002_24) := (blk_cell BK238.out 2).trans rfl; have hcz84_3 : w82.cell? ⟨gb238, 3, none⟩ = some (.int .i64 x239003_24) := (blk_cell BK238.out 3).trans rfl; have hcz84_4 : w82.cell? ⟨gb238, 4, none⟩ = some (.bool x239004_24) := (blk_cell BK238.out 4).trans rfl; have hfz84_0 := blk_frozen BK238.out 0; have hfz84_1 := blk_frozen BK238.out 1; have hfz84_2 := blk_frozen BK238.out 2; have hfz84_3 := blk_frozen BK238.out 3; have hfz84_4 := blk_frozen BK238.out 4) | ((with_reducible refine gate_callee (f := 22) rfl ?_); refine goesL_ (some 72) rfl rfl Tryd.func22 (by kernel_rfl) rfl #[.agg #[.int .i64 a0_0, .int .i64 a0_1, .int .i64 a0_2], .agg #[.int .i64 x239000_24, .int .i64 x239001_24, .int .i64 x239002_24, .int .i64 x239003_24, .bool x239004_24]] rfl (by (try simp only [List.map_toArray, List.map_cons, List.map_nil]); first | done | rfl | (simp only [List.length_drop, List.length_take]; rfl)) ?_; (with_reducible refine (annexref17_Wait.calls kj24 a0_0 a0_1 a0_2 x239000_24 x239001_24 x239002_24 x239003_24 x239004_24 t265 _ A59.out).mono ?_); rintro e w85 ⟨rfl, hb⟩; refine ⟨_, rfl, ?_⟩; have n0_ := Aside0.mk (blk_below (g := gb223) (o := .cells #[.int .i64 a0_0, .int .i64 a0_1, .int .i64 a0_2] 23 (0, 0)) (by (with_reducible repeat (first | refine blk_drewN ?_ _ | refine blk_drew ?_ | refine blk_alloc ?_ _)); exact BK223.out) hb); have n1_ := Aside0.mk (blk_below (g := gb231) (o := .cells #[.int .i64 x232000_24, .int .i64 x232001_24, .int .i64 x232002_24, .int .i64 x232003_24, .bool x232004_24] 26 (0, 0)) (by (with_reducible repeat (first | refine blk_drewN ?_ _ | refine blk_drew ?_ | refine blk_alloc ?_ _)); exact BK231.out) hb); have n2_ := Aside0.mk (blk_below (g := gb238) (o := .cells #[.int .i64 x239000_24, .int .i64 x239001_24, .int .i64 x239002_24, .int .i64 x239003_24, .bool x239004_24] 26 (0, 0)) (by (with_reducible repeat (first | refine blk_drewN ?_ _ | refine blk_drew ?_ | refine blk_alloc ?_ _)); exact BK238.out) hb); have n3_ := Aside0.mk (below_step (by repeat (first | (with_reducible first | exact HB.out | apply below_alloc | apply pw_below_drewN | apply below_drew1 | refine below_set ?_ GE223.out | refine below_set ?_ GE231.out | refine below_set ?_ GE238.out) | exact HB.out)) hb); clear BK223; clear BK231; clear BK238; clear HB; have BK223 := n0_; have BK231 := n1_; have BK238 := n2_; have HB := n3_; clear n0_ n1_ n2_ n3_; (try clear hb); (try clear hb2); (try clear hk); (try clear hi)))
                        go_ret
                        exact ⟨by first | rfl | (simp [errW_none, errW_some] <;> rfl) | (simp [*, errW_none, errW_some] <;> rfl), by repeat (first | (with_reducible first | exact HB.out | apply below_alloc | apply pw_below_drewN | apply below_drew1 | refine below_set ?_ GE223.out | refine below_set ?_ GE231.out | refine below_set ?_ GE238.out) | exact HB.out)⟩
                    · replace c60 := Bool.eq_false_iff.mpr c60
                      subst c60
                      have H1 : (some false) = some r := by rw [if_neg (show ¬ (false = true) by decide)] at H; exact H
                      clear H
                      have H := H1
                      clear H1
                      obtain rfl := Option.some.inj H
                      have hnb86 := NB231_223.out
                      have hnc86 := NB223_231.out
                      have hnb87 := NB231_238.out
                      have hnc87 := NB238_231.out
                      have hcz88_0 : wc.cell? ⟨gb231, 0, none⟩ = some (.int .i64 x232000_24) := (blk_cell BK231.out 0).trans rfl
                      have hcz88_1 : wc.cell? ⟨gb231, 1, none⟩ = some (.int .i64 x232001_24) := (blk_cell BK231.out 1).trans rfl
                      have hcz88_2 : wc.cell? ⟨gb231, 2, none⟩ = some (.int .i64 x232002_24) := (blk_cell BK231.out 2).trans rfl
                      have hcz88_3 : wc.cell? ⟨gb231, 3, none⟩ = some (.int .i64 x232003_24) := (blk_cell BK231.out 3).trans rfl
                      have hcz88_4 : wc.cell? ⟨gb231, 4, none⟩ = some (.bool x232004_24) := (blk_cell BK231.out 4).trans rfl
                      have hfz88_0 := blk_frozen BK231.out 0
                      have hfz88_1 := blk_frozen BK231.out 1
                      have hfz88_2 := blk_frozen BK231.out 2
                      have hfz88_3 := blk_frozen BK231.out 3
                      have hfz88_4 := blk_frozen BK231.out 4
                      have hnb89 := NB238_223.out
                      have hnc89 := NB223_238.out
                      have hcz90_0 : wc.cell? ⟨gb238, 0, none⟩ = some (.int .i64 x239000_24) := (blk_cell BK238.out 0).trans rfl
                      have hcz90_1 : wc.cell? ⟨gb238, 1, none⟩ = some (.int .i64 x239001_24) := (blk_cell BK238.out 1).trans rfl
                      have hcz90_2 : wc.cell? ⟨gb238, 2, none⟩ = some (.int .i64 x239002_24) := (blk_cell BK238.out 2).trans rfl
                      have hcz90_3 : wc.cell? ⟨gb238, 3, none⟩ = some (.int .i64 x239003_24) := (blk_cell BK238.out 3).trans rfl
                      have hcz90_4 : wc.cell? ⟨gb238, 4, none⟩ = some (.bool x239004_24) := (blk_cell BK238.out 4).trans rfl
                      have hfz90_0 := blk_frozen BK238.out 0
                      have hfz90_1 := blk_frozen BK238.out 1
                      have hfz90_2 := blk_frozen BK238.out 2
                      have hfz90_3 := blk_frozen BK238.out 3
                      have hfz90_4 := blk_frozen BK238.out 4
                      go_wp2_with (first | ((with_reducible refine gate_callee (f := 15) rfl ?_); refine goesL_ (some 66) rfl rfl Tryd.func15 (by kernel_rfl) rfl #[.agg #[.int .i64 x232000_24, .int .i64 x232001_24, .int .i64 x232002_24, .int .i64 x232003_24, .bool x232004_24], .agg #[.int .i64 x239000_24, .int .i64 x239001_24, .int .i64 x239002_24, .int .i64 x239003_24, .bool x239004_24]] rfl (by (try simp only [List.map_toArray, List.map_cons, List.map_nil]); first | done | rfl | (simp only [List.length_drop, List.length_take]; rfl)) ?_; (with_reducible refine (annexref_SameEst.calls x232000_24 x232001_24 x232002_24 x232003_24 x232004_24 x239000_24 x239001_24 x239002_24 x239003_24 x239004_24 false _ A57.out).mono ?_); rintro e w91 ⟨rfl, hb⟩; refine ⟨_, rfl, ?_⟩; have n0_ := Aside0.mk (blk_below (g := gb223) (o := .cells #[.int .i64 a0_0, .int .i64 a0_1, .int .i64 a0_2] 23 (0, 0)) (by (with_reducible repeat (first | refine blk_drewN ?_ _ | refine blk_drew ?_ | refine blk_alloc ?_ _)); exact BK223.out) hb); have n1_ := Aside0.mk (blk_below (g := gb231) (o := .cells #[.int .i64 x232000_24, .int .i64 x232001_24, .int .i64 x232002_24, .int .i64 x232003_24, .bool x232004_24] 26 (0, 0)) (by (with_reducible repeat (first | refine blk_drewN ?_ _ | refine blk_drew ?_ | refine blk_alloc ?_ _)); exact BK231.out) hb); have n2_ := Aside0.mk (blk_below (g := gb238) (o := .cells #[.int .i64 x239000_24, .int .i64 x239001_24, .int .i64 x239002_24, .int .i64 x239003_24, .bool x239004_24] 26 (0, 0)) (by (with_reducible repeat (first | refine blk_drewN ?_ _ | refine blk_drew ?_ | refine blk_alloc ?_ _)); exact BK238.out) hb); have n3_ := Aside0.mk (below_step (by repeat (first | (with_reducible first | exact HB.out | apply below_alloc | apply pw_below_drewN | apply below_drew1 | refine below_set ?_ GE223.out | refine below_set ?_ GE231.out | refine below_set ?_ GE238.out) | exact HB.out)) hb); clear BK223; clear BK231; clear BK238; clear HB; have BK223 := n0_; have BK231 := n1_; have BK238 := n2_; have HB := n3_; clear n0_ n1_ n2_ n3_; (try clear hb); (try clear hb2); (try clear hk); (try clear hi); have hcz92_0 : w91.cell? ⟨gb223, 0, none⟩ = some (.int .i64 a0_0) := (blk_cell BK223.out 0).trans rfl; have hcz92_1 : w91.cell? ⟨gb223, 1, none⟩ = some (.int .i64 a0_1) := (blk_cell BK223.out 1).trans rfl; have hcz92_2 : w91.cell? ⟨gb223, 2, none⟩ = some (.int .i64 a0_2) := (blk_cell BK223.out 2).trans rfl; have hfz92_0 := blk_frozen BK223.out 0; have hfz92_1 := blk_frozen BK223.out 1; have hfz92_2 := blk_frozen BK223.out 2; have hcz93_0 : w91.cell? ⟨gb231, 0, none⟩ = some (.int .i64 x232000_24) := (blk_cell BK231.out 0).trans rfl; have hcz93_1 : w91.cell? ⟨gb231, 1, none⟩ = some (.int .i64 x232001_24) := (blk_cell BK231.out 1).trans rfl; have hcz93_2 : w91.cell? ⟨gb231, 2, none⟩ = some (.int .i64 x232002_24) := (blk_cell BK231.out 2).trans rfl; have hcz93_3 : w91.cell? ⟨gb231, 3, none⟩ = some (.int .i64 x232003_24) := (blk_cell BK231.out 3).trans rfl; have hcz93_4 : w91.cell? ⟨gb231, 4, none⟩ = some (.bool x232004_24) := (blk_cell BK231.out 4).trans rfl; have hfz93_0 := blk_frozen BK231.out 0; have hfz93_1 := blk_frozen BK231.out 1; have hfz93_2 := blk_frozen BK231.out 2; have hfz93_3 := blk_frozen BK231.out 3; have hfz93_4 := blk_frozen BK231.out 4) | ((with_reducible refine gate_callee (f := 21) rfl ?_); refine goesL_ (some 69) rfl rfl Tryd.func21 (by kernel_rfl) rfl #[.agg #[.int .i64 a0_0, .int .i64 a0_1, .int .i64 a0_2], .agg #[.int .i64 x232000_24, .int .i64 x232001_24, .int .i64 x232002_24, .int .i64 x232003_24, .bool x232004_24]] rfl (by (try simp only [List.map_toArray, List.map_cons, List.map_nil]); first | done | rfl | (simp only [List.length_drop, List.length_take]; rfl)) ?_; (with_reducible refine (rto_Wait.calls a0_0 a0_1 a0_2 x232000_24 x232001_24 x232002_24 x232003_24 x232004_24 t264 _ ?side1 A58.out).mono ?_); (case side1 => exact Tied.below HG.out (by repeat (first | (with_reducible first | exact HB.out | apply below_alloc | apply pw_below_drewN | apply below_drew1 | refine below_set ?_ GE223.out | refine below_set ?_ GE231.out | refine below_set ?_ GE238.out) | exact HB.out))); rintro e w94 ⟨rfl, hb⟩; refine ⟨_, rfl, ?_⟩; have n0_ := Aside0.mk (blk_below (g := gb223) (o := .cells #[.int .i64 a0_0, .int .i64 a0_1, .int .i64 a0_2] 23 (0, 0)) (by (with_reducible repeat (first | refine blk_drewN ?_ _ | refine blk_drew ?_ | refine blk_alloc ?_ _)); exact BK223.out) hb); have n1_ := Aside0.mk (blk_below (g := gb231) (o := .cells #[.int .i64 x232000_24, .int .i64 x232001_24, .int .i64 x232002_24, .int .i64 x232003_24, .bool x232004_24] 26 (0, 0)) (by (with_reducible repeat (first | refine blk_drewN ?_ _ | refine blk_drew ?_ | refine blk_alloc ?_ _)); exact BK231.out) hb); have n2_ := Aside0.mk (blk_below (g := gb238) (o := .cells #[.int .i64 x239000_24, .int .i64 x239001_24, .int .i64 x239002_24, .int .i64 x239003_24, .bool x239004_24] 26 (0, 0)) (by (with_reducible repeat (first | refine blk_drewN ?_ _ | refine blk_drew ?_ | refine blk_alloc ?_ _)); exact BK238.out) hb); have n3_ := Aside0.mk (below_step (by repeat (first | (with_reducible first | exact HB.out | apply below_alloc | apply pw_below_drewN | apply below_drew1 | refine below_set ?_ GE223.out | refine below_set ?_ GE231.out | refine below_set ?_ GE238.out) | exact HB.out)) hb); clear BK223; clear BK231; clear BK238; clear HB; have BK223 := n0_; have BK231 := n1_; have BK238 := n2_; have HB := n3_; clear n0_ n1_ n2_ n3_; (try clear hb); (try clear hb2); (try clear hk); (try clear hi); have hcz95_0 : w94.cell? ⟨gb223, 0, none⟩ = some (.int .i64 a0_0) := (blk_cell BK223.out 0).trans rfl; have hcz95_1 : w94.cell? ⟨gb223, 1, none⟩ = some (.int .i64 a0_1) := (blk_cell BK223.out 1).trans rfl; have hcz95_2 : w94.cell? ⟨gb223, 2, none⟩ = some (.int .i64 a0_2) := (blk_cell BK223.out 2).trans rfl; have hfz95_0 := blk_frozen BK223.out 0; have hfz95_1 := blk_frozen BK223.out 1; have hfz95_2 := blk_frozen BK223.out 2; have hcz96_0 : w94.cell? ⟨gb238, 0, none⟩ = some (.int .i64 x239000_24) := (blk_cell BK238.out 0).trans rfl; have hcz96_1 : w94.cell? ⟨gb238, 1, none⟩ = some (.int .i64 x239001_24) := (blk_cell BK238.out 1).trans rfl; have hcz96_2 : w94.cell? ⟨gb238, 2, none⟩ = some (.int .i64 x239002_24) := (blk_cell BK238.out 2).trans rfl; have hcz96_3 : w94.cell? ⟨gb238, 3, none⟩ = some (.int .i64 x239003_24) := (blk_cell BK238.out 3).trans rfl; have hcz96_4 : w94.cell? ⟨gb238, 4, none⟩ = some (.bool x239004_24) := (blk_cell BK238.out 4).trans rfl; have hfz96_0 := blk_frozen BK238.out 0; have hfz96_1 := blk_frozen BK238.out 1; have hfz96_2 := blk_frozen BK238.out 2; have hfz96_3 := blk_frozen BK238.out 3; have hfz96_4 := blk_frozen BK238.out 4) | ((with_reducible refine gate_callee (f := 22) rfl ?_); refine goesL_ (some 72) rfl rfl Tryd.func22 (by kernel_rfl) rfl #[.agg #[.int .i64 a0_0, .int .i64 a0_1, .int .i64 a0_2], .agg #[.int .i64 x239000_24, .int .i64 x239001_24, .int .i64 x239002_24, .int .i64 x239003_24, .bool x239004_24]] rfl (by (try simp only [List.map_toArray, List.map_cons, List.map_nil]); first | done | rfl | (simp only [List.length_drop, List.length_take]; rfl)) ?_; (with_reducible refine (annexref17_Wait.calls kj24 a0_0 a0_1 a0_2 x239000_24 x239001_24 x239002_24 x239003_24 x239004_24 t265 _ A59.out).mono ?_); rintro e w97 ⟨rfl, hb⟩; refine ⟨_, rfl, ?_⟩; have n0_ := Aside0.mk (blk_below (g := gb223) (o := .cells #[.int .i64 a0_0, .int .i64 a0_1, .int .i64 a0_2] 23 (0, 0)) (by (with_reducible repeat (first | refine blk_drewN ?_ _ | refine blk_drew ?_ | refine blk_alloc ?_ _)); exact BK223.out) hb); have n1_ := Aside0.mk (blk_below (g := gb231) (o := .cells #[.int .i64 x232000_24, .int .i64 x232001_24, .int .i64 x232002_24, .int .i64 x232003_24, .bool x232004_24] 26 (0, 0)) (by (with_reducible repeat (first | refine blk_drewN ?_ _ | refine blk_drew ?_ | refine blk_alloc ?_ _)); exact BK231.out) hb); have n2_ := Aside0.mk (blk_below (g := gb238) (o := .cells #[.int .i64 x239000_24, .int .i64 x239001_24, .int .i64 x239002_24, .int .i64 x239003_24, .bool x239004_24] 26 (0, 0)) (by (with_reducible repeat (first | refine blk_drewN ?_ _ | refine blk_drew ?_ | refine blk_alloc ?_ _)); exact BK238.out) hb); have n3_ := Aside0.mk (below_step (by repeat (first | (with_reducible first | exact HB.out | apply below_alloc | apply pw_below_drewN | apply below_drew1 | refine below_set ?_ GE223.out | refine below_set ?_ GE231.out | refine below_set ?_ GE238.out) | exact HB.out)) hb); clear BK223; clear BK231; clear BK238; clear HB; have BK223 := n0_; have BK231 := n1_; have BK238 := n2_; have HB := n3_; clear n0_ n1_ n2_ n3_; (try clear hb); (try clear hb2); (try clear hk); (try clear hi)))
                      go_ret
                      exact ⟨by first | rfl | (simp [errW_none, errW_some] <;> rfl) | (simp [*, errW_none, errW_some] <;> rfl), by repeat (first | (with_reducible first | exact HB.out | apply below_alloc | apply pw_below_drewN | apply below_drew1 | refine below_set ?_ GE223.out | refine below_set ?_ GE231.out | refine below_set ?_ GE238.out) | exact HB.out)⟩
              · rw [if_neg c24] at H
                exact absurd H (by simp)
            · rw [if_neg c23] at H
              have c23b0 : decide (x10_2 < (l1.length : Int)) = false := decide_eq_false c23
              clear c23
              obtain rfl := Option.some.inj H
              go_wp2
              go_ret
              exact ⟨by first | rfl | (simp [errW_none, errW_some] <;> rfl) | (simp [*, errW_none, errW_some] <;> rfl), by repeat (first | (with_reducible first | exact HB.out | apply below_alloc | apply pw_below_drewN | apply below_drew1 | refine below_set ?_ GE223.out | refine below_set ?_ GE231.out | refine below_set ?_ GE238.out) | exact HB.out)⟩

end Go.Proofs.YtccddkkijhedhaaDoor.PA
