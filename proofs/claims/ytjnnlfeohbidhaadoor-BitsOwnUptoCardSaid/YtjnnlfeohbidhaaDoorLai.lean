import Derived.Test.YtjnnlfeohbidhaaDoorAs6
import Derived.Test.YtjnnlfeohbidhaaDoorRows
import Derived.ProofKit
import Derived.LaidMore
import Derived.LaidHandle
import Derived.MakeChecks
import Derived.OpenShut
import Derived.Stop.Joined
import Derived.LaidLaws
namespace Go.Proofs.YtjnnlfeohbidhaaDoor
open Go Go.Proofs Go.ChangeShapes Go.WideShapes Go.ChangeAt Go.RowKit
set_option maxRecDepth 100000
theorem own : ownKnob Tryd.prog.godebug = none := by kernel_rfl
theorem laidOut : laidOutB Tryd.prog = true := by kernel_rfl
theorem But.below {w w' : World} (h : But w w' nowhere) : Below w.heap.size w w' := ⟨h.os, h.tape, h.output, h.size, fun k hk => h.blk k hk id⟩
abbrev lst : List (String × DataW Unit) := [("errors.errorType", Rows.laid_errors_errorType), ("annex/bits.errTrouble", Rows.laid_annex_bits_errTrouble)]
theorem door_met (os : Os) (args : Array Value) : laidMetH Tryd.prog lst ((World.doorLaid Tryd.prog 400 os).forCall (fun _ _ => 0) ⟨#[], args, []⟩).memory :=
  laidMetH_of_parts3 (fuel := 8) (laidMet_of_run' 8 (by kernel_rfl) (by kernel_rfl)) (by kernel_rfl) (by kernel_rfl)
theorem gTrb : Tryd.prog.globalNamed "annex/bits.errTrouble" = some 0 := by kernel_rfl
theorem gTyp : Tryd.prog.globalNamed "errors.errorType" = some 1 := by kernel_rfl
theorem tTrb : (Tryd.prog.globals[0]?).map (·.type) = some 85 := by kernel_rfl
theorem star0 : "*" ++ "errors.errorString" = "*errors.errorString" := by decide
theorem rowS (u : TypeId) (h : Tryd.prog.typeName? 3 u = some "*errors.errorString") : u = 126 :=
  typeName_ptr_named (nm := "errors.errorString") (by rw [star0]; kernel_rfl) (by kernel_rfl) (by decide) u (by rw [star0]; exact h)
theorem rtyp_only {u : TypeId} (h : (Tryd.prog.cutTypes.find? (·.1 == "internal/reflectlite.rtype")).map (·.2) = some u) : u = 111 :=
  (Option.some.inj ((show (Tryd.prog.cutTypes.find? (·.1 == "internal/reflectlite.rtype")).map (·.2) = some 111 by kernel_rfl).symm.trans h)).symm
theorem err_only {ty : TypeId} (h1 : ty < Tryd.prog.types.size) (h2 : Tryd.prog.rowNamed ty [101, 114, 114, 111, 114] = true) : ty = 85 := by
  have h0 : Tryd.prog.types.size = 159 := by kernel_rfl
  have hall : ((List.range 159).all fun t => !Tryd.prog.rowNamed t [101, 114, 114, 111, 114] || t == 85) = true := by kernel_rfl
  have := List.all_eq_true.1 hall ty (List.mem_range.2 (by rw [h0] at h1; exact h1))
  simpa [h2] using this
theorem cell_blk {w : World} {b i : Nat} {v : Value} (h : w.cell? ⟨b, i, none⟩ = some v) : ∃ cs bt fz, w.heap[b]? = some (.cells cs bt fz) := by
  unfold World.cell? at h
  dsimp only at h
  split at h
  · rename_i cs bt fz hb
    exact ⟨cs, bt, fz, hb⟩
  · cases h
theorem celAt_of {w : World} {b : Nat} {v : Value} {vs : List Value} (h : ∀ i u, (v :: vs)[i]? = some u → w.cell? ⟨b, i, none⟩ = some u) : CelAt b (v :: vs) w := by
  obtain ⟨cs, bt, fz, hb⟩ := cell_blk (h 0 v rfl)
  refine ⟨_, hb, cs, bt, fz, rfl, fun i u hu => ?_⟩
  have := h i u hu
  rwa [blk_cell hb] at this
theorem celAt_one {w : World} {b : Nat} {v : Value} (h : w.cell? ⟨b, 0, none⟩ = some v) : CelAt b [v] w := celAt_of (fun i u hu => by
  match i, hu with
  | 0, hu => cases hu; exact h
  | n + 1, hu => simp at hu)
theorem celAt_lt {w : World} {b : Nat} {vs : List Value} (h : CelAt b vs w) : b < w.heap.size := by
  obtain ⟨ob, h1, _⟩ := h
  exact (Array.getElem?_eq_some_iff.1 h1).1
theorem of_laid {W : World} (h : laidMetH Tryd.prog lst W) : ∃ E, Glo (gl E) 2 W := by
  have e1 : (lst.filter fun x => x.2.handleName?.isSome) = [("errors.errorType", Rows.laid_errors_errorType)] := by kernel_rfl
  have e2 : (lst.filter fun x => x.2.handleName?.isNone) = [("annex/bits.errTrouble", Rows.laid_annex_bits_errTrouble)] := by kernel_rfl
  unfold laidMetH at h
  rw [e1] at h
  have hh := h.2 _ (List.mem_singleton.2 rfl)
  have h := h.1
  rw [e2] at h
  obtain ⟨ps, ⟨g0, t0, cs0, f0, p0, q0, hg0, ht0, hv0, hd0, hq0, e0⟩, hnd, hrows⟩ := h
  obtain rfl := Option.some.inj (gTrb.symm.trans hg0)
  obtain rfl := Option.some.inj (tTrb.symm.trans ht0)
  obtain ⟨l0⟩ := cs0
  obtain rfl : q0 = [] := hq0
  subst e0
  have ok0 : ∀ u v, l0 = [.iface u v] → Value.okWide Tryd.prog W .any 0 u v := fun u v e => by
    subst e
    exact (hrows 0 0 (by simp [MemPlace.row])).2 u v (by simpa using World.var?_cell hg0 hv0 0)
  obtain ⟨a0, s0, rfl, _, _, _, rfl⟩ := errorString_of_trod Tryd.underlying85 rowS Tryd.underlying126 Tryd.underlying147 rfl rfl Tryd.underlying9 (by kernel_rfl) (by kernel_rfl) hd0 ok0
  have hh' : ∃ name u ty, (Rows.laid_errors_errorType : DataW Unit).handleName? = some name ∧ (Tryd.prog.cutTypes.find? (·.1 == "internal/reflectlite.rtype")).map (·.2) = some u ∧ ty < Tryd.prog.types.size ∧ Tryd.prog.rowNamed ty name = true ∧ W.var? Tryd.prog "errors.errorType" = some #[.iface u (.agg #[typeHandle Tryd.prog ty])] := hh
  obtain ⟨name, u, ty, n1, n2, n3, n4, n5⟩ := hh'
  have n1' : name = [101, 114, 114, 111, 114] := (Option.some.inj ((show (Rows.laid_errors_errorType : DataW Unit).handleName? = some [101, 114, 114, 111, 114] by kernel_rfl).symm.trans n1)).symm
  subst n1'
  obtain rfl := rtyp_only n2
  obtain rfl := err_only n3 n4
  have c0 : CelAt 0 [tgt a0] W := celAt_one (by simpa using World.var?_cell hg0 hv0 0)
  have c1 : CelAt 1 [rty 85] W := celAt_one (by
    have := World.var?_cell gTyp n5 0
    refine this.trans ?_
    show some (Value.iface 111 (.agg #[typeHandle Tryd.prog 85])) = some (rty 85)
    have e3 : typeHandle Tryd.prog 85 = .pointer (some ⟨2, 85, none⟩) := by kernel_rfl
    rw [e3])
  have l0 := celAt_lt c0
  have l1 := celAt_lt c1
  refine ⟨a0, by omega, fun p hp => ?_⟩
  rcases List.mem_cons.1 hp with rfl | hp
  · exact ⟨(show 0 < 2 by decide), c0⟩
  · rw [List.mem_singleton.1 hp]
    exact ⟨(show 1 < 2 by decide), c1⟩
/-- What a law's walk says of a call. -/
theorem specI_top {l : List (Nat × List Value)} {g : Nat} {f : FuncId} {args : List Value} {w : World} (h : SpecI Tryd.prog l g f args [] (fun v M => v = .bool true ∧ M = [])) (hw : Glo l g w) : Calls Tryd.prog f args.toArray w (fun e W' => e = .returned (.bool true) ∧ But w W' nowhere) :=
  (h w nowhere trivial hw (fun _ h => h.elim)).mono fun en w' ⟨v, M, h1, ⟨h2, _⟩, h3⟩ => ⟨by rw [h1, h2], h3.but⟩
end Go.Proofs.YtjnnlfeohbidhaaDoor
