/-
  DERIVED. GIVEN WITH THE SEED: THE CARDS: each row of YtfolhmlldoepfaaGreatDoorRows.lean that lists a variable, with what it lists TIED to the program's text (the seventh form; the later family's looks); each row that meets fmt, with fmt's text TOLD by the authors' own Lean function (tested against real Go, not proved from fmt's source: count such statements apart). THE CARD IS WHAT COUNTS. Prove the row's statement (the work); the ties are given (YtfolhmlldoepfaaGreatDoorTie.lean); close each card by the builder's one call (the guide's Derived/Test/ToyasCard.lean, 'card_holds'). Laid BY PROGRAM, IN A SANDBOX (cutbox-door.mjs). By AI agents, Wed Nov 11 2026. No macro, syntax, notation, axiom, sorry.
-/
import Derived.Test.YtfolhmlldoepfaaGreatDoorRows
import GoSem.ClaimSeven
namespace Go.Proofs.YtfolhmlldoepfaaGreatDoor
namespace Rows

/-- THE TIED CARD OF 'annexlaw4.MsgChecks'. -/
def msgChecksCard : Claim7 := { stood := { row := msgChecksRow, standIns := [], harness := (true, "5d74781492e5de3a37ec452f9e58d73429dfb0debdc83d4746ee669836435c15"), looks := true }, kinds := [], alts := [], laidByText := true, laidKinds := [.handle, .sentinel, .data], laidTests := true, laidLooks := .later }
def MsgChecksCardSaid : Prop := Claim7.holds Tryz.pinned (.plain (OpenSpec.ofChange msgChecksSpec)) msgChecksCard

/-- THE TIED CARD OF 'annexlaw4.MsgEncodes'. -/
def msgEncodesCard : Claim7 := { stood := { row := msgEncodesRow, standIns := [], harness := (true, "5d74781492e5de3a37ec452f9e58d73429dfb0debdc83d4746ee669836435c15"), looks := true }, kinds := [], alts := [], laidByText := true, laidKinds := [.handle, .sentinel, .data], laidTests := true, laidLooks := .later }
def MsgEncodesCardSaid : Prop := Claim7.holds Tryz.pinned (.plain (OpenSpec.ofChange msgEncodesSpec)) msgEncodesCard

/-- THE TIED CARD OF 'annexlaw4.MsgOneByte'. -/
def msgOneByteCard : Claim7 := { stood := { row := msgOneByteRow, standIns := [], harness := (true, "5d74781492e5de3a37ec452f9e58d73429dfb0debdc83d4746ee669836435c15"), looks := true }, kinds := [], alts := [], laidByText := true, laidKinds := [.handle, .sentinel, .data], laidTests := true, laidLooks := .later }
def MsgOneByteCardSaid : Prop := Claim7.holds Tryz.pinned (.plain (OpenSpec.ofChange msgOneByteSpec)) msgOneByteCard

/-- THE TIED CARD OF 'annexlaw4.MsgSums'. -/
def msgSumsCard : Claim7 := { stood := { row := msgSumsRow, standIns := [], harness := (true, "5d74781492e5de3a37ec452f9e58d73429dfb0debdc83d4746ee669836435c15"), looks := true }, kinds := [], alts := [], laidByText := true, laidKinds := [.handle, .sentinel, .data], laidTests := true, laidLooks := .later }
def MsgSumsCardSaid : Prop := Claim7.holds Tryz.pinned (.plain (OpenSpec.ofChange msgSumsSpec)) msgSumsCard

/-- THE TIED CARD OF 'annexlaw4.MsgUnlike'. -/
def msgUnlikeCard : Claim7 := { stood := { row := msgUnlikeRow, standIns := [], harness := (true, "5d74781492e5de3a37ec452f9e58d73429dfb0debdc83d4746ee669836435c15"), looks := true }, kinds := [], alts := [], laidByText := true, laidKinds := [.handle, .sentinel, .data], laidTests := true, laidLooks := .later }
def MsgUnlikeCardSaid : Prop := Claim7.holds Tryz.pinned (.plain (OpenSpec.ofChange msgUnlikeSpec)) msgUnlikeCard

/-- THE TIED CARD OF 'annexlaw4.MsgOwn'. -/
def msgOwnCard : Claim7 := { stood := { row := msgOwnRow, standIns := [], harness := (true, "5d74781492e5de3a37ec452f9e58d73429dfb0debdc83d4746ee669836435c15"), looks := true }, kinds := [], alts := [], laidByText := true, laidKinds := [.handle, .sentinel, .data], laidTests := true, laidLooks := .later }
def MsgOwnCardSaid : Prop := Claim7.holds Tryz.pinned (.plain (OpenSpec.ofChange msgOwnSpec)) msgOwnCard

/-- THE TIED CARD OF 'annexlaw4.MsgDecodes'. -/
def msgDecodesCard : Claim7 := { stood := { row := msgDecodesRow, standIns := [], harness := (true, "5d74781492e5de3a37ec452f9e58d73429dfb0debdc83d4746ee669836435c15"), looks := true }, kinds := [], alts := [], laidByText := true, laidKinds := [.handle, .sentinel, .data], laidTests := true, laidLooks := .later }
def MsgDecodesCardSaid : Prop := Claim7.holds Tryz.pinned (.plain (OpenSpec.ofChange msgDecodesSpec)) msgDecodesCard

/-- THE TIED CARD OF 'annexlaw4.MsgBack'. -/
def msgBackCard : Claim7 := { stood := { row := msgBackRow, standIns := [], harness := (true, "5d74781492e5de3a37ec452f9e58d73429dfb0debdc83d4746ee669836435c15"), looks := true }, kinds := [], alts := [], laidByText := true, laidKinds := [.handle, .sentinel, .data], laidTests := true, laidLooks := .later }
def MsgBackCardSaid : Prop := Claim7.holds Tryz.pinned (.plain (OpenSpec.ofChange msgBackSpec)) msgBackCard

/-- THE TIED CARD OF 'annexlaw4.MsgOneForm'. -/
def msgOneFormCard : Claim7 := { stood := { row := msgOneFormRow, standIns := [], harness := (true, "5d74781492e5de3a37ec452f9e58d73429dfb0debdc83d4746ee669836435c15"), looks := true }, kinds := [], alts := [], laidByText := true, laidKinds := [.handle, .sentinel, .data], laidTests := true, laidLooks := .later }
def MsgOneFormCardSaid : Prop := Claim7.holds Tryz.pinned (.plain (OpenSpec.ofChange msgOneFormSpec)) msgOneFormCard

/-- THE SECOND FORM's CARD OF 'annexlaw4.MsgChecks'. -/
def msgChecksUptoCard : Claim7 := { stood := { row := msgChecksUptoRow, standIns := [], harness := (true, "5d74781492e5de3a37ec452f9e58d73429dfb0debdc83d4746ee669836435c15"), looks := true }, kinds := [], alts := [], laidByText := true, laidKinds := [.handle, .sentinel, .data], laidTests := true, laidLooks := .later }
def MsgChecksUptoCardSaid : Prop := Claim7.holds Tryz.pinned (.plain (OpenSpec.upto msgChecksSpec)) msgChecksUptoCard

/-- THE SECOND FORM's CARD OF 'annexlaw4.MsgEncodes'. -/
def msgEncodesUptoCard : Claim7 := { stood := { row := msgEncodesUptoRow, standIns := [], harness := (true, "5d74781492e5de3a37ec452f9e58d73429dfb0debdc83d4746ee669836435c15"), looks := true }, kinds := [], alts := [], laidByText := true, laidKinds := [.handle, .sentinel, .data], laidTests := true, laidLooks := .later }
def MsgEncodesUptoCardSaid : Prop := Claim7.holds Tryz.pinned (.plain (OpenSpec.upto msgEncodesSpec)) msgEncodesUptoCard

/-- THE SECOND FORM's CARD OF 'annexlaw4.MsgOneByte'. -/
def msgOneByteUptoCard : Claim7 := { stood := { row := msgOneByteUptoRow, standIns := [], harness := (true, "5d74781492e5de3a37ec452f9e58d73429dfb0debdc83d4746ee669836435c15"), looks := true }, kinds := [], alts := [], laidByText := true, laidKinds := [.handle, .sentinel, .data], laidTests := true, laidLooks := .later }
def MsgOneByteUptoCardSaid : Prop := Claim7.holds Tryz.pinned (.plain (OpenSpec.upto msgOneByteSpec)) msgOneByteUptoCard

/-- THE SECOND FORM's CARD OF 'annexlaw4.MsgSums'. -/
def msgSumsUptoCard : Claim7 := { stood := { row := msgSumsUptoRow, standIns := [], harness := (true, "5d74781492e5de3a37ec452f9e58d73429dfb0debdc83d4746ee669836435c15"), looks := true }, kinds := [], alts := [], laidByText := true, laidKinds := [.handle, .sentinel, .data], laidTests := true, laidLooks := .later }
def MsgSumsUptoCardSaid : Prop := Claim7.holds Tryz.pinned (.plain (OpenSpec.upto msgSumsSpec)) msgSumsUptoCard

/-- THE SECOND FORM's CARD OF 'annexlaw4.MsgUnlike'. -/
def msgUnlikeUptoCard : Claim7 := { stood := { row := msgUnlikeUptoRow, standIns := [], harness := (true, "5d74781492e5de3a37ec452f9e58d73429dfb0debdc83d4746ee669836435c15"), looks := true }, kinds := [], alts := [], laidByText := true, laidKinds := [.handle, .sentinel, .data], laidTests := true, laidLooks := .later }
def MsgUnlikeUptoCardSaid : Prop := Claim7.holds Tryz.pinned (.plain (OpenSpec.upto msgUnlikeSpec)) msgUnlikeUptoCard

/-- THE SECOND FORM's CARD OF 'annexlaw4.MsgOwn'. -/
def msgOwnUptoCard : Claim7 := { stood := { row := msgOwnUptoRow, standIns := [], harness := (true, "5d74781492e5de3a37ec452f9e58d73429dfb0debdc83d4746ee669836435c15"), looks := true }, kinds := [], alts := [], laidByText := true, laidKinds := [.handle, .sentinel, .data], laidTests := true, laidLooks := .later }
def MsgOwnUptoCardSaid : Prop := Claim7.holds Tryz.pinned (.plain (OpenSpec.upto msgOwnSpec)) msgOwnUptoCard

/-- THE SECOND FORM's CARD OF 'annexlaw4.MsgDecodes'. -/
def msgDecodesUptoCard : Claim7 := { stood := { row := msgDecodesUptoRow, standIns := [], harness := (true, "5d74781492e5de3a37ec452f9e58d73429dfb0debdc83d4746ee669836435c15"), looks := true }, kinds := [], alts := [], laidByText := true, laidKinds := [.handle, .sentinel, .data], laidTests := true, laidLooks := .later }
def MsgDecodesUptoCardSaid : Prop := Claim7.holds Tryz.pinned (.plain (OpenSpec.upto msgDecodesSpec)) msgDecodesUptoCard

/-- THE SECOND FORM's CARD OF 'annexlaw4.MsgBack'. -/
def msgBackUptoCard : Claim7 := { stood := { row := msgBackUptoRow, standIns := [], harness := (true, "5d74781492e5de3a37ec452f9e58d73429dfb0debdc83d4746ee669836435c15"), looks := true }, kinds := [], alts := [], laidByText := true, laidKinds := [.handle, .sentinel, .data], laidTests := true, laidLooks := .later }
def MsgBackUptoCardSaid : Prop := Claim7.holds Tryz.pinned (.plain (OpenSpec.upto msgBackSpec)) msgBackUptoCard

/-- THE SECOND FORM's CARD OF 'annexlaw4.MsgOneForm'. -/
def msgOneFormUptoCard : Claim7 := { stood := { row := msgOneFormUptoRow, standIns := [], harness := (true, "5d74781492e5de3a37ec452f9e58d73429dfb0debdc83d4746ee669836435c15"), looks := true }, kinds := [], alts := [], laidByText := true, laidKinds := [.handle, .sentinel, .data], laidTests := true, laidLooks := .later }
def MsgOneFormUptoCardSaid : Prop := Claim7.holds Tryz.pinned (.plain (OpenSpec.upto msgOneFormSpec)) msgOneFormUptoCard
end Rows
end Go.Proofs.YtfolhmlldoepfaaGreatDoor
