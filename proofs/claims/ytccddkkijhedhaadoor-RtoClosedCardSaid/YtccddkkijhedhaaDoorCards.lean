/-
  DERIVED. GIVEN WITH THE SEED: THE CARDS: each row of YtccddkkijhedhaaDoorRows.lean that lists a variable, with what it lists TIED to the program's text (the seventh form; the later family's looks); each row that meets fmt, with fmt's text TOLD by the authors' own Lean function (tested against real Go, not proved from fmt's source: count such statements apart). THE CARD IS WHAT COUNTS. Prove the row's statement (the work); the ties are given (YtccddkkijhedhaaDoorTie.lean); close each card by the builder's one call (the guide's Derived/Test/ToyasCard.lean, 'card_holds'). Laid BY PROGRAM, IN A SANDBOX (cutbox-door.mjs). By AI agents, Wed Nov 11 2026. No macro, syntax, notation, axiom, sorry.
-/
import Derived.Test.YtccddkkijhedhaaDoorRows
import GoSem.ClaimSeven
namespace Go.Proofs.YtccddkkijhedhaaDoor
namespace Rows

/-- THE TIED CARD OF 'annexlaw17.RtoStarts'. -/
def rtoStartsCard : Claim7 := { stood := { row := rtoStartsRow, standIns := [], harness := (true, "3cef340d4b87184f4ca0839db539d1b76474a42422fef488a4718ba3470fb29c"), looks := false }, kinds := [], alts := [], laidByText := true, laidKinds := [.wider], laidTests := true, laidLooks := .later }
def RtoStartsCardSaid : Prop := Claim7.holds Tryd.pinned (.plain (OpenSpec.ofChange rtoStartsSpec)) rtoStartsCard

/-- THE TIED CARD OF 'annexlaw17.RtoSamples'. -/
def rtoSamplesCard : Claim7 := { stood := { row := rtoSamplesRow, standIns := [], harness := (true, "3cef340d4b87184f4ca0839db539d1b76474a42422fef488a4718ba3470fb29c"), looks := false }, kinds := [], alts := [], laidByText := true, laidKinds := [.wider], laidTests := true, laidLooks := .later }
def RtoSamplesCardSaid : Prop := Claim7.holds Tryd.pinned (.plain (OpenSpec.ofChange rtoSamplesSpec)) rtoSamplesCard

/-- THE TIED CARD OF 'annexlaw17.RtoExpires'. -/
def rtoExpiresCard : Claim7 := { stood := { row := rtoExpiresRow, standIns := [], harness := (true, "3cef340d4b87184f4ca0839db539d1b76474a42422fef488a4718ba3470fb29c"), looks := false }, kinds := [], alts := [], laidByText := true, laidKinds := [.wider], laidTests := true, laidLooks := .later }
def RtoExpiresCardSaid : Prop := Claim7.holds Tryd.pinned (.plain (OpenSpec.ofChange rtoExpiresSpec)) rtoExpiresCard

/-- THE TIED CARD OF 'annexlaw17.RtoWaits'. -/
def rtoWaitsCard : Claim7 := { stood := { row := rtoWaitsRow, standIns := [], harness := (true, "3cef340d4b87184f4ca0839db539d1b76474a42422fef488a4718ba3470fb29c"), looks := false }, kinds := [], alts := [], laidByText := true, laidKinds := [.wider], laidTests := true, laidLooks := .later }
def RtoWaitsCardSaid : Prop := Claim7.holds Tryd.pinned (.plain (OpenSpec.ofChange rtoWaitsSpec)) rtoWaitsCard

/-- THE TIED CARD OF 'annexlaw17.RtoRuns'. -/
def rtoRunsCard : Claim7 := { stood := { row := rtoRunsRow, standIns := [], harness := (true, "3cef340d4b87184f4ca0839db539d1b76474a42422fef488a4718ba3470fb29c"), looks := false }, kinds := [], alts := [], laidByText := true, laidKinds := [.wider], laidTests := true, laidLooks := .later }
def RtoRunsCardSaid : Prop := Claim7.holds Tryd.pinned (.plain (OpenSpec.ofChange rtoRunsSpec)) rtoRunsCard

/-- THE TIED CARD OF 'annexlaw17.RtoClosed'. -/
def rtoClosedCard : Claim7 := { stood := { row := rtoClosedRow, standIns := [], harness := (true, "3cef340d4b87184f4ca0839db539d1b76474a42422fef488a4718ba3470fb29c"), looks := false }, kinds := [], alts := [], laidByText := true, laidKinds := [.wider], laidTests := true, laidLooks := .later }
def RtoClosedCardSaid : Prop := Claim7.holds Tryd.pinned (.plain (OpenSpec.ofChange rtoClosedSpec)) rtoClosedCard

/-- THE TIED CARD OF 'annexlaw17.RtoDoubles'. -/
def rtoDoublesCard : Claim7 := { stood := { row := rtoDoublesRow, standIns := [], harness := (true, "3cef340d4b87184f4ca0839db539d1b76474a42422fef488a4718ba3470fb29c"), looks := false }, kinds := [], alts := [], laidByText := true, laidKinds := [.wider], laidTests := true, laidLooks := .later }
def RtoDoublesCardSaid : Prop := Claim7.holds Tryd.pinned (.plain (OpenSpec.ofChange rtoDoublesSpec)) rtoDoublesCard

/-- THE TIED CARD OF 'annexlaw17.RtoBetween'. -/
def rtoBetweenCard : Claim7 := { stood := { row := rtoBetweenRow, standIns := [], harness := (true, "3cef340d4b87184f4ca0839db539d1b76474a42422fef488a4718ba3470fb29c"), looks := false }, kinds := [], alts := [], laidByText := true, laidKinds := [.wider], laidTests := true, laidLooks := .later }
def RtoBetweenCardSaid : Prop := Claim7.holds Tryd.pinned (.plain (OpenSpec.ofChange rtoBetweenSpec)) rtoBetweenCard

/-- THE TIED CARD OF 'annexlaw17.RtoSteady'. -/
def rtoSteadyCard : Claim7 := { stood := { row := rtoSteadyRow, standIns := [], harness := (true, "3cef340d4b87184f4ca0839db539d1b76474a42422fef488a4718ba3470fb29c"), looks := false }, kinds := [], alts := [], laidByText := true, laidKinds := [.wider], laidTests := true, laidLooks := .later }
def RtoSteadyCardSaid : Prop := Claim7.holds Tryd.pinned (.plain (OpenSpec.ofChange rtoSteadySpec)) rtoSteadyCard

/-- THE SECOND FORM's CARD OF 'annexlaw17.RtoStarts'. -/
def rtoStartsUptoCard : Claim7 := { stood := { row := rtoStartsUptoRow, standIns := [], harness := (true, "3cef340d4b87184f4ca0839db539d1b76474a42422fef488a4718ba3470fb29c"), looks := false }, kinds := [], alts := [], laidByText := true, laidKinds := [.wider], laidTests := true, laidLooks := .later }
def RtoStartsUptoCardSaid : Prop := Claim7.holds Tryd.pinned (.plain (OpenSpec.upto rtoStartsSpec)) rtoStartsUptoCard

/-- THE SECOND FORM's CARD OF 'annexlaw17.RtoSamples'. -/
def rtoSamplesUptoCard : Claim7 := { stood := { row := rtoSamplesUptoRow, standIns := [], harness := (true, "3cef340d4b87184f4ca0839db539d1b76474a42422fef488a4718ba3470fb29c"), looks := false }, kinds := [], alts := [], laidByText := true, laidKinds := [.wider], laidTests := true, laidLooks := .later }
def RtoSamplesUptoCardSaid : Prop := Claim7.holds Tryd.pinned (.plain (OpenSpec.upto rtoSamplesSpec)) rtoSamplesUptoCard

/-- THE SECOND FORM's CARD OF 'annexlaw17.RtoExpires'. -/
def rtoExpiresUptoCard : Claim7 := { stood := { row := rtoExpiresUptoRow, standIns := [], harness := (true, "3cef340d4b87184f4ca0839db539d1b76474a42422fef488a4718ba3470fb29c"), looks := false }, kinds := [], alts := [], laidByText := true, laidKinds := [.wider], laidTests := true, laidLooks := .later }
def RtoExpiresUptoCardSaid : Prop := Claim7.holds Tryd.pinned (.plain (OpenSpec.upto rtoExpiresSpec)) rtoExpiresUptoCard

/-- THE SECOND FORM's CARD OF 'annexlaw17.RtoWaits'. -/
def rtoWaitsUptoCard : Claim7 := { stood := { row := rtoWaitsUptoRow, standIns := [], harness := (true, "3cef340d4b87184f4ca0839db539d1b76474a42422fef488a4718ba3470fb29c"), looks := false }, kinds := [], alts := [], laidByText := true, laidKinds := [.wider], laidTests := true, laidLooks := .later }
def RtoWaitsUptoCardSaid : Prop := Claim7.holds Tryd.pinned (.plain (OpenSpec.upto rtoWaitsSpec)) rtoWaitsUptoCard

/-- THE SECOND FORM's CARD OF 'annexlaw17.RtoRuns'. -/
def rtoRunsUptoCard : Claim7 := { stood := { row := rtoRunsUptoRow, standIns := [], harness := (true, "3cef340d4b87184f4ca0839db539d1b76474a42422fef488a4718ba3470fb29c"), looks := false }, kinds := [], alts := [], laidByText := true, laidKinds := [.wider], laidTests := true, laidLooks := .later }
def RtoRunsUptoCardSaid : Prop := Claim7.holds Tryd.pinned (.plain (OpenSpec.upto rtoRunsSpec)) rtoRunsUptoCard

/-- THE SECOND FORM's CARD OF 'annexlaw17.RtoClosed'. -/
def rtoClosedUptoCard : Claim7 := { stood := { row := rtoClosedUptoRow, standIns := [], harness := (true, "3cef340d4b87184f4ca0839db539d1b76474a42422fef488a4718ba3470fb29c"), looks := false }, kinds := [], alts := [], laidByText := true, laidKinds := [.wider], laidTests := true, laidLooks := .later }
def RtoClosedUptoCardSaid : Prop := Claim7.holds Tryd.pinned (.plain (OpenSpec.upto rtoClosedSpec)) rtoClosedUptoCard

/-- THE SECOND FORM's CARD OF 'annexlaw17.RtoDoubles'. -/
def rtoDoublesUptoCard : Claim7 := { stood := { row := rtoDoublesUptoRow, standIns := [], harness := (true, "3cef340d4b87184f4ca0839db539d1b76474a42422fef488a4718ba3470fb29c"), looks := false }, kinds := [], alts := [], laidByText := true, laidKinds := [.wider], laidTests := true, laidLooks := .later }
def RtoDoublesUptoCardSaid : Prop := Claim7.holds Tryd.pinned (.plain (OpenSpec.upto rtoDoublesSpec)) rtoDoublesUptoCard

/-- THE SECOND FORM's CARD OF 'annexlaw17.RtoBetween'. -/
def rtoBetweenUptoCard : Claim7 := { stood := { row := rtoBetweenUptoRow, standIns := [], harness := (true, "3cef340d4b87184f4ca0839db539d1b76474a42422fef488a4718ba3470fb29c"), looks := false }, kinds := [], alts := [], laidByText := true, laidKinds := [.wider], laidTests := true, laidLooks := .later }
def RtoBetweenUptoCardSaid : Prop := Claim7.holds Tryd.pinned (.plain (OpenSpec.upto rtoBetweenSpec)) rtoBetweenUptoCard

/-- THE SECOND FORM's CARD OF 'annexlaw17.RtoSteady'. -/
def rtoSteadyUptoCard : Claim7 := { stood := { row := rtoSteadyUptoRow, standIns := [], harness := (true, "3cef340d4b87184f4ca0839db539d1b76474a42422fef488a4718ba3470fb29c"), looks := false }, kinds := [], alts := [], laidByText := true, laidKinds := [.wider], laidTests := true, laidLooks := .later }
def RtoSteadyUptoCardSaid : Prop := Claim7.holds Tryd.pinned (.plain (OpenSpec.upto rtoSteadySpec)) rtoSteadyUptoCard
end Rows
end Go.Proofs.YtccddkkijhedhaaDoor
