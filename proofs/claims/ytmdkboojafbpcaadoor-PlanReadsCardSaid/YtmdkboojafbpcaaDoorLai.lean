import Derived.Test.YtmdkboojafbpcaaDoorPl5
import Derived.Test.YtmdkboojafbpcaaDoorRows
import Derived.ProofKit
import Derived.LaidMore
import Derived.LaidHandle
import Derived.MakeChecks
import Derived.OpenShut
import Derived.Stop.Joined
namespace Go.Proofs.YtmdkboojafbpcaaDoor
open Go Go.Proofs Go.ChangeShapes Go.WideShapes Go.ChangeAt Go.RowKit
set_option maxRecDepth 100000
theorem own : ownKnob Tryd.prog.godebug = none := by kernel_rfl
theorem laidOut : laidOutB Tryd.prog = true := by kernel_rfl
theorem But.below {w w' : World} (h : But w w' nowhere) : Below w.heap.size w w' := ⟨h.os, h.tape, h.output, h.size, fun k hk => h.blk k hk id⟩
abbrev lst : List (String × DataW Unit) := [("errors.errorType", Rows.laid_errors_errorType), ("annex/bits.errTrouble", Rows.laid_annex_bits_errTrouble), ("annex/plan.bounds", Rows.laid_annex_plan_bounds)]
theorem door_met (os : Os) (args : Array Value) : laidMetH Tryd.prog lst ((World.doorLaid Tryd.prog 400 os).forCall (fun _ _ => 0) ⟨#[], args, []⟩).memory :=
  laidMetH_of_parts3 (fuel := 8) (laidMet_of_run' 8 (by kernel_rfl) (by kernel_rfl)) (by kernel_rfl) (by kernel_rfl)
theorem gBnd : Tryd.prog.globalNamed "annex/plan.bounds" = some 0 := by kernel_rfl
theorem tBnd : (Tryd.prog.globals[0]?).map (·.type) = some 65 := by kernel_rfl
theorem cut1 {α : Type} {cs : List α} {i : Nat} {v : α} (h : (cs.drop i).take 1 = [v]) : cs[i]? = some v := by
  have := congrArg (fun l : List α => l[0]?) h
  simpa [List.getElem?_drop] using this
theorem pair_cells {W : World} {cs : List Value} {m i : Nat} {y : DataW Unit × List MemPlace} {u v : Int} (h : DataW.trod (fun _ => ()) Tryd.prog W 0 (fun _ => true) false m 64 ((cs.drop i).take 2) = some y)
    (hy : y.1 = .agg [.lit (.int .i64 u), .lit (.int .i64 v)]) : cs[i]? = some (.int .i64 u) ∧ cs[i + 1]? = some (.int .i64 v) := by
  have c3 : Tryd.prog.cellsOf 3 = 1 := by kernel_rfl
  obtain ⟨xs, m1, rfl, hx1, hlen, hn, hel⟩ := DataW.trod_array Tryd.underlying64 h
  rw [c3] at hel
  match xs, hn, hx1, hel with
  | [x0, x1], _, hx1, hel =>
    subst hx1
    have h0 := hel 0 (by decide)
    have h1 := hel 1 (by decide)
    obtain ⟨a, e0, x0', _⟩ := DataW.trod_int Tryd.underlying3 h0
    obtain ⟨b, e1, x1', _⟩ := DataW.trod_int Tryd.underlying3 h1
    subst x0' x1'
    simp only [List.map_cons, List.map_nil, DataW.agg.injEq, List.cons.injEq, DataW.lit.injEq, Lit.int.injEq, true_and, and_true] at hy
    obtain ⟨rfl, rfl⟩ := hy
    have e0 : (((cs.drop i).take 2).drop 0).take 1 = [.int .i64 a] := e0
    have e1 : (((cs.drop i).take 2).drop 1).take 1 = [.int .i64 b] := e1
    have f0 := cut1 e0
    have f1 := cut1 e1
    rw [List.getElem?_take, if_pos (by decide), List.getElem?_drop] at f0 f1
    exact ⟨f0, f1⟩
theorem cell_blk {w : World} {b i : Nat} {v : Value} (h : w.cell? ⟨b, i, none⟩ = some v) : ∃ cs bt fz, w.heap[b]? = some (.cells cs bt fz) := by
  unfold World.cell? at h
  dsimp only at h
  split at h
  · rename_i cs bt fz hb
    exact ⟨cs, bt, fz, hb⟩
  · cases h
theorem celAt_of {w : World} {b : Nat} {v : Value} {vs : List Value} (h : ∀ i u, (v :: vs)[i]? = some u → w.cell? ⟨b, i, none⟩ = some u) : CelAt b (v :: vs) w := by
  obtain ⟨cs, bt, fz, hb⟩ := cell_blk (h 0 v rfl)
  refine ⟨_, hb, cs, bt, fz, rfl, fun i u hu => ?_⟩
  have := h i u hu
  rwa [blk_cell hb] at this
theorem of_laid {W : World} (h : laidMetH Tryd.prog lst W) : CelAt 0 bndL W := by
  have e1 : (lst.filter fun x => x.2.handleName?.isSome) = [("errors.errorType", Rows.laid_errors_errorType)] := by kernel_rfl
  have e2 : (lst.filter fun x => x.2.handleName?.isNone) = [("annex/bits.errTrouble", Rows.laid_annex_bits_errTrouble), ("annex/plan.bounds", Rows.laid_annex_plan_bounds)] := by kernel_rfl
  unfold laidMetH at h
  rw [e1] at h
  have h := h.1
  rw [e2] at h
  obtain ⟨ps, ⟨g0, t0, cs0, f0, p0, q0, _, _, _, _, ⟨g1, t1, cs1, f1, p1, q1, hg1, ht1, hv1, hd1, _⟩, _⟩, _, _⟩ := h
  obtain rfl := Option.some.inj (gBnd.symm.trans hg1)
  obtain rfl := Option.some.inj (tBnd.symm.trans ht1)
  have c2 : Tryd.prog.cellsOf 64 = 2 := by kernel_rfl
  obtain ⟨xs, m1, rfl, hx1, hlen, hn, hel⟩ := DataW.trod_array Tryd.underlying65 hd1
  rw [c2] at hel
  match xs, hn, hx1, hel with
  | [x0, x1, x2, x3, x4, x5, x6, x7], _, hx1, hel =>
    simp only [Rows.laid_annex_plan_bounds, Prod.mk.injEq, DataW.agg.injEq, List.map_cons, List.map_nil, List.cons.injEq, and_true] at hx1
    obtain ⟨⟨e0, e1, e2, e3, e4, e5, e6, e7⟩, _⟩ := hx1
    obtain ⟨a0, a1⟩ := pair_cells (hel 0 (by decide)) e0.symm
    obtain ⟨a2, a3⟩ := pair_cells (hel 1 (by decide)) e1.symm
    obtain ⟨a4, a5⟩ := pair_cells (hel 2 (by decide)) e2.symm
    obtain ⟨a6, a7⟩ := pair_cells (hel 3 (by decide)) e3.symm
    obtain ⟨a8, a9⟩ := pair_cells (hel 4 (by decide)) e4.symm
    obtain ⟨a10, a11⟩ := pair_cells (hel 5 (by decide)) e5.symm
    obtain ⟨a12, a13⟩ := pair_cells (hel 6 (by decide)) e6.symm
    obtain ⟨a14, a15⟩ := pair_cells (hel 7 (by decide)) e7.symm
    have hcell : ∀ i v, cs1.toList[i]? = some v → W.cell? ⟨0, i, none⟩ = some v := fun i v hv => by
      rw [World.var?_cell hg1 hv1 i, ← hv]; simp
    refine celAt_of (fun i v hv => ?_)
    match i, hv with
    | 0, hv => cases hv; exact hcell _ _ a0
    | 1, hv => cases hv; exact hcell _ _ a1
    | 2, hv => cases hv; exact hcell _ _ a2
    | 3, hv => cases hv; exact hcell _ _ a3
    | 4, hv => cases hv; exact hcell _ _ a4
    | 5, hv => cases hv; exact hcell _ _ a5
    | 6, hv => cases hv; exact hcell _ _ a6
    | 7, hv => cases hv; exact hcell _ _ a7
    | 8, hv => cases hv; exact hcell _ _ a8
    | 9, hv => cases hv; exact hcell _ _ a9
    | 10, hv => cases hv; exact hcell _ _ a10
    | 11, hv => cases hv; exact hcell _ _ a11
    | 12, hv => cases hv; exact hcell _ _ a12
    | 13, hv => cases hv; exact hcell _ _ a13
    | 14, hv => cases hv; exact hcell _ _ a14
    | 15, hv => cases hv; exact hcell _ _ a15
    | n + 16, hv => simp at hv
end Go.Proofs.YtmdkboojafbpcaaDoor
