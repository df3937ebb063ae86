/-
  DERIVED. GIVEN WITH THE SEED: THE CARDS: each row of YtjnnlfeohbidhaaDoorRows.lean that lists a variable, with what it lists TIED to the program's text (the seventh form; the later family's looks); each row that meets fmt, with fmt's text TOLD by the authors' own Lean function (tested against real Go, not proved from fmt's source: count such statements apart). THE CARD IS WHAT COUNTS. Prove the row's statement (the work); the ties are given (YtjnnlfeohbidhaaDoorTie.lean); close each card by the builder's one call (the guide's Derived/Test/ToyasCard.lean, 'card_holds'). Laid BY PROGRAM, IN A SANDBOX (cutbox-door.mjs). By AI agents, Wed Nov 11 2026. No macro, syntax, notation, axiom, sorry.
-/
import Derived.Test.YtjnnlfeohbidhaaDoorRows
import GoSem.ClaimSeven
namespace Go.Proofs.YtjnnlfeohbidhaaDoor
namespace Rows

/-- THE TIED CARD OF 'annexlaw1.BitsPuts'. -/
def bitsPutsCard : Claim7 := { stood := { row := bitsPutsRow, standIns := [], harness := (true, "802f867633c4b119a2d15bcbc798292e1ad8bb233a87839d7a4678f879b598ff"), looks := true }, kinds := [], alts := [], laidByText := true, laidKinds := [.handle, .sentinel], laidTests := true, laidLooks := .later }
def BitsPutsCardSaid : Prop := Claim7.holds Tryd.pinned (.plain (OpenSpec.ofChange bitsPutsSpec)) bitsPutsCard

/-- THE TIED CARD OF 'annexlaw1.BitsNumbers'. -/
def bitsNumbersCard : Claim7 := { stood := { row := bitsNumbersRow, standIns := [], harness := (true, "802f867633c4b119a2d15bcbc798292e1ad8bb233a87839d7a4678f879b598ff"), looks := true }, kinds := [], alts := [], laidByText := true, laidKinds := [.handle, .sentinel], laidTests := true, laidLooks := .later }
def BitsNumbersCardSaid : Prop := Claim7.holds Tryd.pinned (.plain (OpenSpec.ofChange bitsNumbersSpec)) bitsNumbersCard

/-- THE TIED CARD OF 'annexlaw1.BitsOwn'. -/
def bitsOwnCard : Claim7 := { stood := { row := bitsOwnRow, standIns := [], harness := (true, "802f867633c4b119a2d15bcbc798292e1ad8bb233a87839d7a4678f879b598ff"), looks := true }, kinds := [], alts := [], laidByText := true, laidKinds := [.handle, .sentinel], laidTests := true, laidLooks := .later }
def BitsOwnCardSaid : Prop := Claim7.holds Tryd.pinned (.plain (OpenSpec.ofChange bitsOwnSpec)) bitsOwnCard

/-- THE TIED CARD OF 'annexlaw1.BitsBack'. -/
def bitsBackCard : Claim7 := { stood := { row := bitsBackRow, standIns := [], harness := (true, "802f867633c4b119a2d15bcbc798292e1ad8bb233a87839d7a4678f879b598ff"), looks := true }, kinds := [], alts := [], laidByText := true, laidKinds := [.handle, .sentinel], laidTests := true, laidLooks := .later }
def BitsBackCardSaid : Prop := Claim7.holds Tryd.pinned (.plain (OpenSpec.ofChange bitsBackSpec)) bitsBackCard

/-- THE TIED CARD OF 'annexlaw1.BitsCut'. -/
def bitsCutCard : Claim7 := { stood := { row := bitsCutRow, standIns := [], harness := (true, "802f867633c4b119a2d15bcbc798292e1ad8bb233a87839d7a4678f879b598ff"), looks := true }, kinds := [], alts := [], laidByText := true, laidKinds := [.handle, .sentinel], laidTests := true, laidLooks := .later }
def BitsCutCardSaid : Prop := Claim7.holds Tryd.pinned (.plain (OpenSpec.ofChange bitsCutSpec)) bitsCutCard

/-- THE TIED CARD OF 'annexlaw1.BitsReads'. -/
def bitsReadsCard : Claim7 := { stood := { row := bitsReadsRow, standIns := [], harness := (true, "802f867633c4b119a2d15bcbc798292e1ad8bb233a87839d7a4678f879b598ff"), looks := true }, kinds := [], alts := [], laidByText := true, laidKinds := [.handle, .sentinel], laidTests := true, laidLooks := .later }
def BitsReadsCardSaid : Prop := Claim7.holds Tryd.pinned (.plain (OpenSpec.ofChange bitsReadsSpec)) bitsReadsCard

/-- THE TIED CARD OF 'annexlaw1.BitsOneForm'. -/
def bitsOneFormCard : Claim7 := { stood := { row := bitsOneFormRow, standIns := [], harness := (true, "802f867633c4b119a2d15bcbc798292e1ad8bb233a87839d7a4678f879b598ff"), looks := true }, kinds := [], alts := [], laidByText := true, laidKinds := [.handle, .sentinel], laidTests := true, laidLooks := .later }
def BitsOneFormCardSaid : Prop := Claim7.holds Tryd.pinned (.plain (OpenSpec.ofChange bitsOneFormSpec)) bitsOneFormCard

/-- THE SECOND FORM's CARD OF 'annexlaw1.BitsPuts'. -/
def bitsPutsUptoCard : Claim7 := { stood := { row := bitsPutsUptoRow, standIns := [], harness := (true, "802f867633c4b119a2d15bcbc798292e1ad8bb233a87839d7a4678f879b598ff"), looks := true }, kinds := [], alts := [], laidByText := true, laidKinds := [.handle, .sentinel], laidTests := true, laidLooks := .later }
def BitsPutsUptoCardSaid : Prop := Claim7.holds Tryd.pinned (.plain (OpenSpec.upto bitsPutsSpec)) bitsPutsUptoCard

/-- THE SECOND FORM's CARD OF 'annexlaw1.BitsNumbers'. -/
def bitsNumbersUptoCard : Claim7 := { stood := { row := bitsNumbersUptoRow, standIns := [], harness := (true, "802f867633c4b119a2d15bcbc798292e1ad8bb233a87839d7a4678f879b598ff"), looks := true }, kinds := [], alts := [], laidByText := true, laidKinds := [.handle, .sentinel], laidTests := true, laidLooks := .later }
def BitsNumbersUptoCardSaid : Prop := Claim7.holds Tryd.pinned (.plain (OpenSpec.upto bitsNumbersSpec)) bitsNumbersUptoCard

/-- THE SECOND FORM's CARD OF 'annexlaw1.BitsOwn'. -/
def bitsOwnUptoCard : Claim7 := { stood := { row := bitsOwnUptoRow, standIns := [], harness := (true, "802f867633c4b119a2d15bcbc798292e1ad8bb233a87839d7a4678f879b598ff"), looks := true }, kinds := [], alts := [], laidByText := true, laidKinds := [.handle, .sentinel], laidTests := true, laidLooks := .later }
def BitsOwnUptoCardSaid : Prop := Claim7.holds Tryd.pinned (.plain (OpenSpec.upto bitsOwnSpec)) bitsOwnUptoCard

/-- THE SECOND FORM's CARD OF 'annexlaw1.BitsBack'. -/
def bitsBackUptoCard : Claim7 := { stood := { row := bitsBackUptoRow, standIns := [], harness := (true, "802f867633c4b119a2d15bcbc798292e1ad8bb233a87839d7a4678f879b598ff"), looks := true }, kinds := [], alts := [], laidByText := true, laidKinds := [.handle, .sentinel], laidTests := true, laidLooks := .later }
def BitsBackUptoCardSaid : Prop := Claim7.holds Tryd.pinned (.plain (OpenSpec.upto bitsBackSpec)) bitsBackUptoCard

/-- THE SECOND FORM's CARD OF 'annexlaw1.BitsCut'. -/
def bitsCutUptoCard : Claim7 := { stood := { row := bitsCutUptoRow, standIns := [], harness := (true, "802f867633c4b119a2d15bcbc798292e1ad8bb233a87839d7a4678f879b598ff"), looks := true }, kinds := [], alts := [], laidByText := true, laidKinds := [.handle, .sentinel], laidTests := true, laidLooks := .later }
def BitsCutUptoCardSaid : Prop := Claim7.holds Tryd.pinned (.plain (OpenSpec.upto bitsCutSpec)) bitsCutUptoCard

/-- THE SECOND FORM's CARD OF 'annexlaw1.BitsReads'. -/
def bitsReadsUptoCard : Claim7 := { stood := { row := bitsReadsUptoRow, standIns := [], harness := (true, "802f867633c4b119a2d15bcbc798292e1ad8bb233a87839d7a4678f879b598ff"), looks := true }, kinds := [], alts := [], laidByText := true, laidKinds := [.handle, .sentinel], laidTests := true, laidLooks := .later }
def BitsReadsUptoCardSaid : Prop := Claim7.holds Tryd.pinned (.plain (OpenSpec.upto bitsReadsSpec)) bitsReadsUptoCard

/-- THE SECOND FORM's CARD OF 'annexlaw1.BitsOneForm'. -/
def bitsOneFormUptoCard : Claim7 := { stood := { row := bitsOneFormUptoRow, standIns := [], harness := (true, "802f867633c4b119a2d15bcbc798292e1ad8bb233a87839d7a4678f879b598ff"), looks := true }, kinds := [], alts := [], laidByText := true, laidKinds := [.handle, .sentinel], laidTests := true, laidLooks := .later }
def BitsOneFormUptoCardSaid : Prop := Claim7.holds Tryd.pinned (.plain (OpenSpec.upto bitsOneFormSpec)) bitsOneFormUptoCard
end Rows
end Go.Proofs.YtjnnlfeohbidhaaDoor
