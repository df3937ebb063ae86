import Derived.Test.YtfolhmlldoepfaaGreatDoorGp
import Derived.Test.YtfolhmlldoepfaaGreatDoorGr
import Derived.Test.YtfolhmlldoepfaaGreatDoorGd
import Derived.Test.YtfolhmlldoepfaaGreatDoorGe
import Derived.Test.YtfolhmlldoepfaaGreatDoorGk
namespace Go.Proofs.YtfolhmlldoepfaaGreatDoor
open Go Go.Proofs Go.RowKit
set_option maxRecDepth 4000
end Go.Proofs.YtfolhmlldoepfaaGreatDoor
namespace Go.Proofs.YtfolhmlldoepfaaGreatDoor
open Go Go.Proofs Go.RowKit
set_option maxRecDepth 4000
section
variable (q : Nat) (bs : List Int) (at_ : Nat) (er : Int) (hb : Byts bs) (hl : bs.length ≤ 140737488355200) (hat : at_ ≤ bs.length)
include hb hl hat
end
end Go.Proofs.YtfolhmlldoepfaaGreatDoor
namespace Go.Proofs.YtfolhmlldoepfaaGreatDoor
open Go Go.Proofs Go.RowKit
set_option maxRecDepth 4000
section
variable (q : Nat) (bs : List Int) (at_ : Nat) (er : Int) (hb : Byts bs) (hl : bs.length ≤ 140737488355200) (hat : at_ ≤ bs.length) (most : Int) (hm : -9223372036854775808 ≤ most ∧ most ≤ 9223372036854775807)
include hb hl hat hm
end
end Go.Proofs.YtfolhmlldoepfaaGreatDoor
namespace Go.Proofs.YtfolhmlldoepfaaGreatDoor
open Go Go.Proofs Go.RowKit
set_option maxRecDepth 4000
end Go.Proofs.YtfolhmlldoepfaaGreatDoor
namespace Go.Proofs.YtfolhmlldoepfaaGreatDoor
open Go Go.Proofs Go.RowKit
set_option maxRecDepth 4000
end Go.Proofs.YtfolhmlldoepfaaGreatDoor
namespace Go.Proofs.YtfolhmlldoepfaaGreatDoor
open Go Go.Proofs Go.RowKit
set_option maxRecDepth 4000
end Go.Proofs.YtfolhmlldoepfaaGreatDoor
namespace Go.Proofs.YtfolhmlldoepfaaGreatDoor
open Go Go.Proofs Go.RowKit
set_option maxRecDepth 4000
theorem sameQ_self (a b : ReqV) (ds : List Int) (h : { a with dv := b.dv } = b) : sameQ a b ds ds = true := by
  rw [← h]
  simp [sameQ]
theorem sameP_self (a b : RepV) (ds : List Int) (es : List EntV) (h : { a with dv := b.dv, lv := b.lv } = b) : sameP a b ds ds es es = true := by
  rw [← h]
  simp [sameP]
end Go.Proofs.YtfolhmlldoepfaaGreatDoor
