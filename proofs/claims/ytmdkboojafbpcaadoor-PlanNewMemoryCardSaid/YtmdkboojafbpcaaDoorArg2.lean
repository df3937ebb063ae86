import Derived.Test.YtmdkboojafbpcaaDoorArg
import Derived.Test.YtmdkboojafbpcaaDoorQ6
namespace Go.Proofs.YtmdkboojafbpcaaDoor
open Go Go.Proofs Go.ChangeShapes Go.WideShapes Go.ChangeAt Go.RowKit
set_option maxRecDepth 100000
variable {H : Type} {enc : TypeId × Value → H} {w : World} {base : Nat} {spare : Nat → Bool} {held : Bool} {r : Reach} {b0 : Nat} {v : Value} {d : DataW H} {p : List MemPlace}
theorem arg_shapes (hv : Value.okWide Tryd.prog w r b0 55 v) (h : DataW.Trod enc Tryd.prog w base spare held 55 v d p) :
    ∃ xs, Rd shpE w v xs ∧ ((d = .nil ∧ xs = []) ∨ ∃ (D : Nat → DataW H) (rest : List (DataW H)), d = .slice ((List.range xs.length).map D) rest) := by
  obtain ⟨xs, h1, h2⟩ := rd_gen shpE Tryd.underlying55 (by kernel_rfl) hv h read_shape
  exact ⟨xs, h1, h2.imp id fun ⟨D, rest, e, _⟩ => ⟨D, rest, e⟩⟩
end Go.Proofs.YtmdkboojafbpcaaDoor
