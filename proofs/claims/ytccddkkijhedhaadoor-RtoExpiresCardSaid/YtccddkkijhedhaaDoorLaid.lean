import Derived.Test.YtccddkkijhedhaaDoorRows
import Derived.Test.YtccddkkijhedhaaDoorMay
import Derived.ProofKit
import Derived.LaidMore
import Derived.OpenShut
import Derived.Stop.Joined
namespace Go.Proofs.YtccddkkijhedhaaDoor
open Go.ChangeShapes Go.WideShapes Go.ChangeAt Go.RowKit
theorem own : ownKnob Tryd.prog.godebug = none := by kernel_rfl
theorem laidOut : laidOutB Tryd.prog = true := by kernel_rfl
theorem gRows : Tryd.prog.globalNamed "annex/rto.rows" = some 0 := by kernel_rfl
theorem tRows : (Tryd.prog.globals[0]?).map (·.type) = some 47 := by kernel_rfl
theorem door_met (os : Os) (args : Array Value) : laidMetH Tryd.prog [("annex/rto.rows", Rows.laid_annex_rto_rows)] ((World.doorLaid Tryd.prog 400 os).forCall (fun _ _ => 0) ⟨#[], args, []⟩).memory :=
  laidMetH_of_parts3 (fuel := 8) (laidMet_of_run' 8 (by kernel_rfl) (by kernel_rfl)) (by kernel_rfl) (by kernel_rfl)

theorem cut1 {α : Type} {cs : List α} {i : Nat} {v : α} (h : (cs.drop i).take 1 = [v]) : cs[i]? = some v := by
  have := congrArg (fun l : List α => l[0]?) h
  simpa [List.getElem?_drop] using this

theorem pair_cells {W : World} {cs : List Value} {m i : Nat} {y : DataW Unit × List MemPlace} {u v : Int} (h : DataW.trod (fun _ => ()) Tryd.prog W 0 (fun _ => true) false m 46 ((cs.drop i).take 2) = some y)
    (hy : y.1 = .agg [.lit (.int .i64 u), .lit (.int .i64 v)]) : cs[i]? = some (.int .i64 u) ∧ cs[i + 1]? = some (.int .i64 v) := by
  have c3 : Tryd.prog.cellsOf 3 = 1 := by kernel_rfl
  obtain ⟨y0, y1, n, hx, hl, h0, h1⟩ := trod_struct2 Tryd.underlying46 h
  subst hx
  obtain ⟨a, e0, x0, _⟩ := DataW.trod_int Tryd.underlying3 h0
  obtain ⟨b, e1, x1, _⟩ := DataW.trod_int Tryd.underlying3 h1
  subst x0 x1
  simp only [DataW.agg.injEq, List.cons.injEq, DataW.lit.injEq, Lit.int.injEq, true_and, and_true] at hy
  obtain ⟨rfl, rfl⟩ := hy
  rw [c3] at e0 e1
  have e0 : (((cs.drop i).take 2).drop 0).take 1 = [.int .i64 a] := e0
  have e1 : (((cs.drop i).take 2).drop 1).take 1 = [.int .i64 b] := e1
  have f0 := cut1 e0
  have f1 := cut1 e1
  rw [List.getElem?_take, if_pos (by decide), List.getElem?_drop] at f0 f1
  exact ⟨f0, f1⟩

theorem of_laid {W : World} (h : laidMetH Tryd.prog [("annex/rto.rows", Rows.laid_annex_rto_rows)] W) : Tied W := by
  rw [MakeChecks.laidMetH_plain _ _ _ (by kernel_rfl)] at h
  obtain ⟨ps, ⟨g0, t0, cs0, f0, p0, q0, hg0, ht0, hv0, hd0, _⟩, _, _⟩ := h
  obtain rfl := Option.some.inj (gRows.symm.trans hg0)
  obtain rfl := Option.some.inj (tRows.symm.trans ht0)
  have c46 : Tryd.prog.cellsOf 46 = 2 := by kernel_rfl
  obtain ⟨xs, m1, rfl, hx1, hlen, hn, hel⟩ := DataW.trod_array Tryd.underlying47 hd0
  rw [c46] at hel
  match xs, hn, hx1, hel with
  | [x0, x1, x2, x3], _, hx1, hel =>
    simp only [Rows.laid_annex_rto_rows, Prod.mk.injEq, DataW.agg.injEq, List.map_cons, List.map_nil, List.cons.injEq, and_true] at hx1
    obtain ⟨⟨e0, e1, e2, e3⟩, _⟩ := hx1
    obtain ⟨a0, a1⟩ := pair_cells (hel 0 (by decide)) e0.symm
    obtain ⟨a2, a3⟩ := pair_cells (hel 1 (by decide)) e1.symm
    obtain ⟨a4, a5⟩ := pair_cells (hel 2 (by decide)) e2.symm
    obtain ⟨a6, a7⟩ := pair_cells (hel 3 (by decide)) e3.symm
    have hcell : ∀ i v, cs0.toList[i]? = some v → W.cell? ⟨0, i, none⟩ = some v := fun i v hv => by
      rw [World.var?_cell hg0 hv0 i, ← hv]; simp
    constructor
    intro i v hv
    match i, hv with
    | 0, hv => cases hv; exact hcell _ _ a0
    | 1, hv => cases hv; exact hcell _ _ a1
    | 2, hv => cases hv; exact hcell _ _ a2
    | 3, hv => cases hv; exact hcell _ _ a3
    | 4, hv => cases hv; exact hcell _ _ a4
    | 5, hv => cases hv; exact hcell _ _ a5
    | 6, hv => cases hv; exact hcell _ _ a6
    | 7, hv => cases hv; exact hcell _ _ a7
    | n + 8, hv => simp at hv
end Go.Proofs.YtccddkkijhedhaaDoor
