/-
  DERIVED. GIVEN WITH THE SEED: THE CARDS: each row of YtmdkboojafbpcaaDoorRows.lean that lists a variable, with what it lists TIED to the program's text (the seventh form; the later family's looks); each row that meets fmt, with fmt's text TOLD by the authors' own Lean function (tested against real Go, not proved from fmt's source: count such statements apart). THE CARD IS WHAT COUNTS. Prove the row's statement (the work); the ties are given (YtmdkboojafbpcaaDoorTie.lean); close each card by the builder's one call (the guide's Derived/Test/ToyasCard.lean, 'card_holds'). Laid BY PROGRAM, IN A SANDBOX (cutbox-door.mjs). By AI agents, Wed Nov 11 2026. No macro, syntax, notation, axiom, sorry.
-/
import Derived.Test.YtmdkboojafbpcaaDoorRows
import GoSem.ClaimSeven
namespace Go.Proofs.YtmdkboojafbpcaaDoor
namespace Rows

/-- THE TIED CARD OF 'annexlaw6.PlanPlans'. -/
def planPlansCard : Claim7 := { stood := { row := planPlansRow, standIns := [], harness := (true, "549d8d3b369df9de78772527f6bd53f260467cff9cbb35c6951c5c533f50470c"), looks := true }, kinds := [], alts := [], laidByText := true, laidKinds := [.handle, .sentinel, .data], laidTests := true, laidLooks := .later }
def PlanPlansCardSaid : Prop := Claim7.holds Tryd.pinned (.plain (OpenSpec.ofChange planPlansSpec)) planPlansCard

/-- THE TIED CARD OF 'annexlaw6.PlanSupers'. -/
def planSupersCard : Claim7 := { stood := { row := planSupersRow, standIns := [], harness := (true, "549d8d3b369df9de78772527f6bd53f260467cff9cbb35c6951c5c533f50470c"), looks := true }, kinds := [], alts := [], laidByText := true, laidKinds := [.handle, .sentinel, .data], laidTests := true, laidLooks := .later }
def PlanSupersCardSaid : Prop := Claim7.holds Tryd.pinned (.plain (OpenSpec.ofChange planSupersSpec)) planSupersCard

/-- THE TIED CARD OF 'annexlaw6.PlanReads'. -/
def planReadsCard : Claim7 := { stood := { row := planReadsRow, standIns := [], harness := (true, "549d8d3b369df9de78772527f6bd53f260467cff9cbb35c6951c5c533f50470c"), looks := true }, kinds := [], alts := [], laidByText := true, laidKinds := [.handle, .sentinel, .data], laidTests := true, laidLooks := .later }
def PlanReadsCardSaid : Prop := Claim7.holds Tryd.pinned (.plain (OpenSpec.ofChange planReadsSpec)) planReadsCard

/-- THE TIED CARD OF 'annexlaw6.PlanWheres'. -/
def planWheresCard : Claim7 := { stood := { row := planWheresRow, standIns := [], harness := (true, "549d8d3b369df9de78772527f6bd53f260467cff9cbb35c6951c5c533f50470c"), looks := true }, kinds := [], alts := [], laidByText := true, laidKinds := [.handle, .sentinel, .data], laidTests := true, laidLooks := .later }
def PlanWheresCardSaid : Prop := Claim7.holds Tryd.pinned (.plain (OpenSpec.ofChange planWheresSpec)) planWheresCard

/-- THE TIED CARD OF 'annexlaw6.PlanReturns'. -/
def planReturnsCard : Claim7 := { stood := { row := planReturnsRow, standIns := [], harness := (true, "549d8d3b369df9de78772527f6bd53f260467cff9cbb35c6951c5c533f50470c"), looks := true }, kinds := [], alts := [], laidByText := true, laidKinds := [.handle, .sentinel, .data], laidTests := true, laidLooks := .later }
def PlanReturnsCardSaid : Prop := Claim7.holds Tryd.pinned (.plain (OpenSpec.ofChange planReturnsSpec)) planReturnsCard

/-- THE TIED CARD OF 'annexlaw6.PlanOneForm'. -/
def planOneFormCard : Claim7 := { stood := { row := planOneFormRow, standIns := [], harness := (true, "549d8d3b369df9de78772527f6bd53f260467cff9cbb35c6951c5c533f50470c"), looks := true }, kinds := [], alts := [], laidByText := true, laidKinds := [.handle, .sentinel, .data], laidTests := true, laidLooks := .later }
def PlanOneFormCardSaid : Prop := Claim7.holds Tryd.pinned (.plain (OpenSpec.ofChange planOneFormSpec)) planOneFormCard

/-- THE TIED CARD OF 'annexlaw6.PlanRots'. -/
def planRotsCard : Claim7 := { stood := { row := planRotsRow, standIns := [], harness := (true, "549d8d3b369df9de78772527f6bd53f260467cff9cbb35c6951c5c533f50470c"), looks := true }, kinds := [], alts := [], laidByText := true, laidKinds := [.handle, .sentinel, .data], laidTests := true, laidLooks := .later }
def PlanRotsCardSaid : Prop := Claim7.holds Tryd.pinned (.plain (OpenSpec.ofChange planRotsSpec)) planRotsCard

/-- THE TIED CARD OF 'annexlaw6.PlanCovers'. -/
def planCoversCard : Claim7 := { stood := { row := planCoversRow, standIns := [], harness := (true, "549d8d3b369df9de78772527f6bd53f260467cff9cbb35c6951c5c533f50470c"), looks := true }, kinds := [], alts := [], laidByText := true, laidKinds := [.handle, .sentinel, .data], laidTests := true, laidLooks := .later }
def PlanCoversCardSaid : Prop := Claim7.holds Tryd.pinned (.plain (OpenSpec.ofChange planCoversSpec)) planCoversCard

/-- THE TIED CARD OF 'annexlaw6.PlanRoom'. -/
def planRoomCard : Claim7 := { stood := { row := planRoomRow, standIns := [], harness := (true, "549d8d3b369df9de78772527f6bd53f260467cff9cbb35c6951c5c533f50470c"), looks := true }, kinds := [], alts := [], laidByText := true, laidKinds := [.handle, .sentinel, .data], laidTests := true, laidLooks := .later }
def PlanRoomCardSaid : Prop := Claim7.holds Tryd.pinned (.plain (OpenSpec.ofChange planRoomSpec)) planRoomCard

/-- THE TIED CARD OF 'annexlaw6.PlanNewMemory'. -/
def planNewMemoryCard : Claim7 := { stood := { row := planNewMemoryRow, standIns := [], harness := (true, "549d8d3b369df9de78772527f6bd53f260467cff9cbb35c6951c5c533f50470c"), looks := true }, kinds := [], alts := [], laidByText := true, laidKinds := [.handle, .sentinel, .data], laidTests := true, laidLooks := .later }
def PlanNewMemoryCardSaid : Prop := Claim7.holds Tryd.pinned (.plain (OpenSpec.ofChange planNewMemorySpec)) planNewMemoryCard

/-- THE SECOND FORM's CARD OF 'annexlaw6.PlanPlans'. -/
def planPlansUptoCard : Claim7 := { stood := { row := planPlansUptoRow, standIns := [], harness := (true, "549d8d3b369df9de78772527f6bd53f260467cff9cbb35c6951c5c533f50470c"), looks := true }, kinds := [], alts := [], laidByText := true, laidKinds := [.handle, .sentinel, .data], laidTests := true, laidLooks := .later }
def PlanPlansUptoCardSaid : Prop := Claim7.holds Tryd.pinned (.plain (OpenSpec.upto planPlansSpec)) planPlansUptoCard

/-- THE SECOND FORM's CARD OF 'annexlaw6.PlanSupers'. -/
def planSupersUptoCard : Claim7 := { stood := { row := planSupersUptoRow, standIns := [], harness := (true, "549d8d3b369df9de78772527f6bd53f260467cff9cbb35c6951c5c533f50470c"), looks := true }, kinds := [], alts := [], laidByText := true, laidKinds := [.handle, .sentinel, .data], laidTests := true, laidLooks := .later }
def PlanSupersUptoCardSaid : Prop := Claim7.holds Tryd.pinned (.plain (OpenSpec.upto planSupersSpec)) planSupersUptoCard

/-- THE SECOND FORM's CARD OF 'annexlaw6.PlanReads'. -/
def planReadsUptoCard : Claim7 := { stood := { row := planReadsUptoRow, standIns := [], harness := (true, "549d8d3b369df9de78772527f6bd53f260467cff9cbb35c6951c5c533f50470c"), looks := true }, kinds := [], alts := [], laidByText := true, laidKinds := [.handle, .sentinel, .data], laidTests := true, laidLooks := .later }
def PlanReadsUptoCardSaid : Prop := Claim7.holds Tryd.pinned (.plain (OpenSpec.upto planReadsSpec)) planReadsUptoCard

/-- THE SECOND FORM's CARD OF 'annexlaw6.PlanWheres'. -/
def planWheresUptoCard : Claim7 := { stood := { row := planWheresUptoRow, standIns := [], harness := (true, "549d8d3b369df9de78772527f6bd53f260467cff9cbb35c6951c5c533f50470c"), looks := true }, kinds := [], alts := [], laidByText := true, laidKinds := [.handle, .sentinel, .data], laidTests := true, laidLooks := .later }
def PlanWheresUptoCardSaid : Prop := Claim7.holds Tryd.pinned (.plain (OpenSpec.upto planWheresSpec)) planWheresUptoCard

/-- THE SECOND FORM's CARD OF 'annexlaw6.PlanReturns'. -/
def planReturnsUptoCard : Claim7 := { stood := { row := planReturnsUptoRow, standIns := [], harness := (true, "549d8d3b369df9de78772527f6bd53f260467cff9cbb35c6951c5c533f50470c"), looks := true }, kinds := [], alts := [], laidByText := true, laidKinds := [.handle, .sentinel, .data], laidTests := true, laidLooks := .later }
def PlanReturnsUptoCardSaid : Prop := Claim7.holds Tryd.pinned (.plain (OpenSpec.upto planReturnsSpec)) planReturnsUptoCard

/-- THE SECOND FORM's CARD OF 'annexlaw6.PlanOneForm'. -/
def planOneFormUptoCard : Claim7 := { stood := { row := planOneFormUptoRow, standIns := [], harness := (true, "549d8d3b369df9de78772527f6bd53f260467cff9cbb35c6951c5c533f50470c"), looks := true }, kinds := [], alts := [], laidByText := true, laidKinds := [.handle, .sentinel, .data], laidTests := true, laidLooks := .later }
def PlanOneFormUptoCardSaid : Prop := Claim7.holds Tryd.pinned (.plain (OpenSpec.upto planOneFormSpec)) planOneFormUptoCard

/-- THE SECOND FORM's CARD OF 'annexlaw6.PlanRots'. -/
def planRotsUptoCard : Claim7 := { stood := { row := planRotsUptoRow, standIns := [], harness := (true, "549d8d3b369df9de78772527f6bd53f260467cff9cbb35c6951c5c533f50470c"), looks := true }, kinds := [], alts := [], laidByText := true, laidKinds := [.handle, .sentinel, .data], laidTests := true, laidLooks := .later }
def PlanRotsUptoCardSaid : Prop := Claim7.holds Tryd.pinned (.plain (OpenSpec.upto planRotsSpec)) planRotsUptoCard

/-- THE SECOND FORM's CARD OF 'annexlaw6.PlanCovers'. -/
def planCoversUptoCard : Claim7 := { stood := { row := planCoversUptoRow, standIns := [], harness := (true, "549d8d3b369df9de78772527f6bd53f260467cff9cbb35c6951c5c533f50470c"), looks := true }, kinds := [], alts := [], laidByText := true, laidKinds := [.handle, .sentinel, .data], laidTests := true, laidLooks := .later }
def PlanCoversUptoCardSaid : Prop := Claim7.holds Tryd.pinned (.plain (OpenSpec.upto planCoversSpec)) planCoversUptoCard

/-- THE SECOND FORM's CARD OF 'annexlaw6.PlanRoom'. -/
def planRoomUptoCard : Claim7 := { stood := { row := planRoomUptoRow, standIns := [], harness := (true, "549d8d3b369df9de78772527f6bd53f260467cff9cbb35c6951c5c533f50470c"), looks := true }, kinds := [], alts := [], laidByText := true, laidKinds := [.handle, .sentinel, .data], laidTests := true, laidLooks := .later }
def PlanRoomUptoCardSaid : Prop := Claim7.holds Tryd.pinned (.plain (OpenSpec.upto planRoomSpec)) planRoomUptoCard

/-- THE SECOND FORM's CARD OF 'annexlaw6.PlanNewMemory'. -/
def planNewMemoryUptoCard : Claim7 := { stood := { row := planNewMemoryUptoRow, standIns := [], harness := (true, "549d8d3b369df9de78772527f6bd53f260467cff9cbb35c6951c5c533f50470c"), looks := true }, kinds := [], alts := [], laidByText := true, laidKinds := [.handle, .sentinel, .data], laidTests := true, laidLooks := .later }
def PlanNewMemoryUptoCardSaid : Prop := Claim7.holds Tryd.pinned (.plain (OpenSpec.upto planNewMemorySpec)) planNewMemoryUptoCard
end Rows
end Go.Proofs.YtmdkboojafbpcaaDoor
