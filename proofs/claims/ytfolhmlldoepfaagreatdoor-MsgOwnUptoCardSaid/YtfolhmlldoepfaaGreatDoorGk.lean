import Derived.Test.YtfolhmlldoepfaaGreatDoorGf
namespace Go.Proofs.YtfolhmlldoepfaaGreatDoor
open Go Go.Proofs Go.RowKit
set_option maxRecDepth 4000
theorem rd_lenS {X : Type} {E : Elem X} {w : World} {sl : SlV} {xs : List X} (h : Rd E w sl.v xs) : xs.length = sl.len := by
  obtain ⟨_, _, e, _⟩ := h
  unfold SlV.v at e
  injection e with _ e _
  exact e.symm
end Go.Proofs.YtfolhmlldoepfaaGreatDoor
namespace Go.Proofs.YtfolhmlldoepfaaGreatDoor
open Go Go.Proofs Go.RowKit
set_option maxRecDepth 4000
end Go.Proofs.YtfolhmlldoepfaaGreatDoor
namespace Go.Proofs.YtfolhmlldoepfaaGreatDoor
open Go Go.Proofs Go.RowKit
set_option maxRecDepth 4000
section
variable {P : Program} {n : Nat} {ds : List Deferred} {e : Env} {w0 : World} {F0 : Nat → Prop} {L : List Asn}
end
end Go.Proofs.YtfolhmlldoepfaaGreatDoor
namespace Go.Proofs.YtfolhmlldoepfaaGreatDoor
open Go Go.Proofs Go.RowKit
set_option maxRecDepth 4000
end Go.Proofs.YtfolhmlldoepfaaGreatDoor
