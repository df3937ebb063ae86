import Derived.Test.YtmdkboojafbpcaaDoorArg
import Derived.Test.YtmdkboojafbpcaaDoorQ8
namespace Go.Proofs.YtmdkboojafbpcaaDoor
open Go Go.Proofs Go.ChangeShapes Go.WideShapes Go.ChangeAt Go.RowKit
set_option maxRecDepth 100000
variable {H : Type} {enc : TypeId × Value → H} {w : World} {base : Nat} {spare : Nat → Bool} {held : Bool} {r : Reach} {b0 : Nat} {v : Value} {d : DataW H} {p : List MemPlace}
theorem read_int : ∀ n cs x, DataW.trod enc Tryd.prog w base spare held n 3 cs = some x → ∃ q, intE.enc q = cs := by
  intro n cs x hf
  obtain ⟨a, e0, _, _⟩ := DataW.trod_int Tryd.underlying3 hf
  exact ⟨a, e0.symm⟩
theorem arg_ints (hv : Value.okWide Tryd.prog w r b0 50 v) (h : DataW.Trod enc Tryd.prog w base spare held 50 v d p) :
    ∃ xs, Rd intE w v xs ∧ (∀ x ∈ xs, -9223372036854775808 ≤ x ∧ x ≤ 9223372036854775807) ∧ ((d = .nil ∧ xs = []) ∨ ∃ (D : Nat → DataW H) (rest : List (DataW H)), d = .slice ((List.range xs.length).map D) rest) := by
  obtain ⟨xs, h1, h2⟩ := rd_gen intE Tryd.underlying50 (by kernel_rfl) hv h read_int
  refine ⟨xs, h1, fun x hx => ?_, h2.imp id fun ⟨D, rest, e, _⟩ => ⟨D, rest, e⟩⟩
  rcases h2 with ⟨_, rfl⟩ | ⟨D, rest, _, hd⟩
  · cases hx
  · obtain ⟨i, hi⟩ := List.mem_iff_getElem?.1 hx
    obtain ⟨n, pl, ht⟩ := hd i x hi
    obtain ⟨a, e0, _, wf⟩ := DataW.trod_int Tryd.underlying3 ht
    injection e0 with e0
    injection e0 with _ e0
    subst e0
    exact wf_i64 wf
end Go.Proofs.YtmdkboojafbpcaaDoor
