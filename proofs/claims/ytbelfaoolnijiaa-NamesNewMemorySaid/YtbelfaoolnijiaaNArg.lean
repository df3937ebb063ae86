import Derived.Test.YtbelfaoolnijiaaNM3
import Derived.Test.YtbelfaoolnijiaaRows
import Derived.Below
import Derived.KernelRfl
import Derived.SizedLaws
import Derived.WalkKit
import Derived.ProofKit
import Derived.OpenShut
import Derived.Deep.SlicePairs
namespace Go.Proofs.Ytbelfaoolnijiaa
open Go Go.Proofs Go.ChangeShapes Go.WideShapes Go.ChangeAt Go.RowKit
set_option maxRecDepth 100000
theorem own : ownKnob Try.prog.godebug = none := by kernel_rfl
theorem laidOut : laidOutB Try.prog = true := by kernel_rfl
theorem But.below {w w' : World} (h : But w w' nowhere) : Below w.heap.size w w' := ⟨h.os, h.tape, h.output, h.size, fun k hk => h.blk k hk id⟩
section
variable {H : Type} {enc : TypeId × Value → H} {w : World} {base : Nat} {spare : Nat → Bool} {held : Bool} {r : Reach} {b0 : Nat} {v : Value} {d : DataW H} {p : List MemPlace}
theorem arg_strs (hv : Value.okWide Try.prog w r b0 22 v) (h : DataW.Trod enc Try.prog w base spare held 22 v d p) : ∃ xs : List ByteArray, Rd strE w v xs := by
  obtain ⟨ls, h1, _⟩ := rd_gen strE Try.underlying22 (by kernel_rfl) hv h (fun n cs x hf => by
    obtain ⟨s, q, _⟩ := DataW.trod_string Try.underlying9 hf
    exact ⟨s, q.symm⟩)
  exact ⟨ls, h1⟩
end
end Go.Proofs.Ytbelfaoolnijiaa
