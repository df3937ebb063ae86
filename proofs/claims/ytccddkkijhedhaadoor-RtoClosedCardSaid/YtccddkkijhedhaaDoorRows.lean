/-
  NARROWER THAN 'FOR EVERY INPUT', by the rows' own cells (each row's printed sentence says how): RtoStarts: laid · RtoSamples: laid · RtoExpires: laid · RtoWaits: laid · RtoRuns: laid · RtoClosed: laid · RtoDoubles: laid · RtoBetween: laid · RtoSteady: laid.
  DERIVED. THE GIVEN ROWS OF THIS SEAT. 9 by the template 'for every input the law returns true; each argument reads behind the call as it read before'; 0 by the template 'total and deterministic' (their statements: YtccddkkijhedhaaDoorTotals.lean).
  GIVEN WITH THE SEED: the statements are not yours to turn. If you find one false, say at which input.
  Laid BY PROGRAM, IN A SANDBOX (cutbox-rows.mjs): the forced cells as the released guide's own fill.sh prints them over the translation 7f5a1ae4aa86b94d… (all of the seat's roots in one cut). By AI agents, Wed Nov 11 2026. No macro, syntax, notation, axiom, sorry.
-/
import Derived.Test.YtccddkkijhedhaaDoorChecked
import GoSem.Claim
import GoSem.ClaimJoined
import GoSem.ClaimMapViews
import Derived.JoinedTies
import Derived.KernelRfl
namespace Go.Proofs.YtccddkkijhedhaaDoor
/- THE CELL 'sum', in the pinned program and in every row, IS THE sha256 OF THE DUMP (.gsa) THAT YtccddkkijhedhaaDoorProg.lean LOADS. Nothing in Lean hashes anything: it is a label: what it is worth is what the hold of that sum in a sandbox is worth. -/
noncomputable def Tryd.pinned : Pinned := { name := "ytccddkkijhedhaadoor", sum := "7f5a1ae4aa86b94dd1905e7ba74595f76ccc59ba6f34115292fc173fbda11079", checked := Tryd.checked }
namespace Rows
def none {H : Type} : Left H := { results := [], args := [] }

/- WHAT THE LISTED PACKAGE-LEVEL VARIABLES READ AS WHEN THE CALL BEGINS. Each datum BY PROGRAM (the guide's laid-datum.mjs) off the statement by which the dump's own 'gosem.cut.vars' lays the variable. In a bare row this is a premise. The card (YtccddkkijhedhaaDoorCards.lean) ties it to the program's text. -/
def laid_annex_rto_rows {H : Type} : DataW H := .agg [.agg [.lit (.int .i64 0), .lit (.int .i64 16777216)], .agg [.lit (.int .i64 0), .lit (.int .i64 16777216)], .agg [.lit (.int .i64 0), .lit (.int .i64 20)], .agg [.lit (.int .i64 1), .lit (.int .i64 1048576)]]

/-- 'annexlaw17.RtoStarts': WHATEVER THE INPUT: true; the input reads as it did. -/
def rtoStartsSpec : ChangeSpec := { name := "rtoStarts", fn := fun _ => fun
  | [d] => { results := [.lit (.bool true)], args := [d] }
  | _ => none }
def rtoStartsRow : OpenClaim := { program := "ytccddkkijhedhaadoor", sum := "7f5a1ae4aa86b94dd1905e7ba74595f76ccc59ba6f34115292fc173fbda11079", func := "annex/annexlaw17.RtoStarts", spec := "rtoStarts", unfollowed := true, recurses := true, named := ["annex/rto.rows"], apart := false, laid := [("annex/rto.rows", laid_annex_rto_rows)] }
def RtoStartsSaid : Prop := rtoStartsRow.holds Tryd.pinned (OpenSpec.ofChange rtoStartsSpec)

/-- ITS FALSE NEIGHBOUR: 'it returns false'. Refute it at one input. -/
def rtoStartsWrong : ChangeSpec := { name := "rtoStarts", fn := fun _ => fun
  | [d] => { results := [.lit (.bool false)], args := [d] }
  | _ => none }
def RtoStartsWrongFalsely : Prop := rtoStartsRow.holds Tryd.pinned (OpenSpec.ofChange rtoStartsWrong)

/-- 'annexlaw17.RtoSamples': WHATEVER THE INPUT: true; the input reads as it did. -/
def rtoSamplesSpec : ChangeSpec := { name := "rtoSamples", fn := fun _ => fun
  | [d1, d2, d3] => { results := [.lit (.bool true)], args := [d1, d2, d3] }
  | _ => none }
def rtoSamplesRow : OpenClaim := { program := "ytccddkkijhedhaadoor", sum := "7f5a1ae4aa86b94dd1905e7ba74595f76ccc59ba6f34115292fc173fbda11079", func := "annex/annexlaw17.RtoSamples", spec := "rtoSamples", unfollowed := true, recurses := true, named := ["annex/rto.rows"], apart := false, laid := [("annex/rto.rows", laid_annex_rto_rows)] }
def RtoSamplesSaid : Prop := rtoSamplesRow.holds Tryd.pinned (OpenSpec.ofChange rtoSamplesSpec)

/-- ITS FALSE NEIGHBOUR: 'it returns false'. Refute it at one input. -/
def rtoSamplesWrong : ChangeSpec := { name := "rtoSamples", fn := fun _ => fun
  | [d1, d2, d3] => { results := [.lit (.bool false)], args := [d1, d2, d3] }
  | _ => none }
def RtoSamplesWrongFalsely : Prop := rtoSamplesRow.holds Tryd.pinned (OpenSpec.ofChange rtoSamplesWrong)

/-- 'annexlaw17.RtoExpires': WHATEVER THE INPUT: true; the input reads as it did. -/
def rtoExpiresSpec : ChangeSpec := { name := "rtoExpires", fn := fun _ => fun
  | [d1, d2] => { results := [.lit (.bool true)], args := [d1, d2] }
  | _ => none }
def rtoExpiresRow : OpenClaim := { program := "ytccddkkijhedhaadoor", sum := "7f5a1ae4aa86b94dd1905e7ba74595f76ccc59ba6f34115292fc173fbda11079", func := "annex/annexlaw17.RtoExpires", spec := "rtoExpires", unfollowed := true, recurses := true, named := ["annex/rto.rows"], apart := false, laid := [("annex/rto.rows", laid_annex_rto_rows)] }
def RtoExpiresSaid : Prop := rtoExpiresRow.holds Tryd.pinned (OpenSpec.ofChange rtoExpiresSpec)

/-- ITS FALSE NEIGHBOUR: 'it returns false'. Refute it at one input. -/
def rtoExpiresWrong : ChangeSpec := { name := "rtoExpires", fn := fun _ => fun
  | [d1, d2] => { results := [.lit (.bool false)], args := [d1, d2] }
  | _ => none }
def RtoExpiresWrongFalsely : Prop := rtoExpiresRow.holds Tryd.pinned (OpenSpec.ofChange rtoExpiresWrong)

/-- 'annexlaw17.RtoWaits': WHATEVER THE INPUT: true; the input reads as it did. -/
def rtoWaitsSpec : ChangeSpec := { name := "rtoWaits", fn := fun _ => fun
  | [d1, d2] => { results := [.lit (.bool true)], args := [d1, d2] }
  | _ => none }
def rtoWaitsRow : OpenClaim := { program := "ytccddkkijhedhaadoor", sum := "7f5a1ae4aa86b94dd1905e7ba74595f76ccc59ba6f34115292fc173fbda11079", func := "annex/annexlaw17.RtoWaits", spec := "rtoWaits", unfollowed := true, recurses := true, named := ["annex/rto.rows"], apart := false, laid := [("annex/rto.rows", laid_annex_rto_rows)] }
def RtoWaitsSaid : Prop := rtoWaitsRow.holds Tryd.pinned (OpenSpec.ofChange rtoWaitsSpec)

/-- ITS FALSE NEIGHBOUR: 'it returns false'. Refute it at one input. -/
def rtoWaitsWrong : ChangeSpec := { name := "rtoWaits", fn := fun _ => fun
  | [d1, d2] => { results := [.lit (.bool false)], args := [d1, d2] }
  | _ => none }
def RtoWaitsWrongFalsely : Prop := rtoWaitsRow.holds Tryd.pinned (OpenSpec.ofChange rtoWaitsWrong)

/-- 'annexlaw17.RtoRuns': WHATEVER THE INPUT: true; the input reads as it did. -/
def rtoRunsSpec : ChangeSpec := { name := "rtoRuns", fn := fun _ => fun
  | [d1, d2] => { results := [.lit (.bool true)], args := [d1, d2] }
  | _ => none }
def rtoRunsRow : OpenClaim := { program := "ytccddkkijhedhaadoor", sum := "7f5a1ae4aa86b94dd1905e7ba74595f76ccc59ba6f34115292fc173fbda11079", func := "annex/annexlaw17.RtoRuns", spec := "rtoRuns", unfollowed := true, recurses := true, named := ["annex/rto.rows"], apart := false, laid := [("annex/rto.rows", laid_annex_rto_rows)] }
def RtoRunsSaid : Prop := rtoRunsRow.holds Tryd.pinned (OpenSpec.ofChange rtoRunsSpec)

/-- ITS FALSE NEIGHBOUR: 'it returns false'. Refute it at one input. -/
def rtoRunsWrong : ChangeSpec := { name := "rtoRuns", fn := fun _ => fun
  | [d1, d2] => { results := [.lit (.bool false)], args := [d1, d2] }
  | _ => none }
def RtoRunsWrongFalsely : Prop := rtoRunsRow.holds Tryd.pinned (OpenSpec.ofChange rtoRunsWrong)

/-- 'annexlaw17.RtoClosed': WHATEVER THE INPUT: true; the input reads as it did. -/
def rtoClosedSpec : ChangeSpec := { name := "rtoClosed", fn := fun _ => fun
  | [d1, d2, d3] => { results := [.lit (.bool true)], args := [d1, d2, d3] }
  | _ => none }
def rtoClosedRow : OpenClaim := { program := "ytccddkkijhedhaadoor", sum := "7f5a1ae4aa86b94dd1905e7ba74595f76ccc59ba6f34115292fc173fbda11079", func := "annex/annexlaw17.RtoClosed", spec := "rtoClosed", unfollowed := true, recurses := true, named := ["annex/rto.rows"], apart := false, laid := [("annex/rto.rows", laid_annex_rto_rows)] }
def RtoClosedSaid : Prop := rtoClosedRow.holds Tryd.pinned (OpenSpec.ofChange rtoClosedSpec)

/-- ITS FALSE NEIGHBOUR: 'it returns false'. Refute it at one input. -/
def rtoClosedWrong : ChangeSpec := { name := "rtoClosed", fn := fun _ => fun
  | [d1, d2, d3] => { results := [.lit (.bool false)], args := [d1, d2, d3] }
  | _ => none }
def RtoClosedWrongFalsely : Prop := rtoClosedRow.holds Tryd.pinned (OpenSpec.ofChange rtoClosedWrong)

/-- 'annexlaw17.RtoDoubles': WHATEVER THE INPUT: true; the input reads as it did. -/
def rtoDoublesSpec : ChangeSpec := { name := "rtoDoubles", fn := fun _ => fun
  | [d1, d2, d3] => { results := [.lit (.bool true)], args := [d1, d2, d3] }
  | _ => none }
def rtoDoublesRow : OpenClaim := { program := "ytccddkkijhedhaadoor", sum := "7f5a1ae4aa86b94dd1905e7ba74595f76ccc59ba6f34115292fc173fbda11079", func := "annex/annexlaw17.RtoDoubles", spec := "rtoDoubles", unfollowed := true, recurses := true, named := ["annex/rto.rows"], apart := false, laid := [("annex/rto.rows", laid_annex_rto_rows)] }
def RtoDoublesSaid : Prop := rtoDoublesRow.holds Tryd.pinned (OpenSpec.ofChange rtoDoublesSpec)

/-- ITS FALSE NEIGHBOUR: 'it returns false'. Refute it at one input. -/
def rtoDoublesWrong : ChangeSpec := { name := "rtoDoubles", fn := fun _ => fun
  | [d1, d2, d3] => { results := [.lit (.bool false)], args := [d1, d2, d3] }
  | _ => none }
def RtoDoublesWrongFalsely : Prop := rtoDoublesRow.holds Tryd.pinned (OpenSpec.ofChange rtoDoublesWrong)

/-- 'annexlaw17.RtoBetween': WHATEVER THE INPUT: true; the input reads as it did. -/
def rtoBetweenSpec : ChangeSpec := { name := "rtoBetween", fn := fun _ => fun
  | [d1, d2, d3, d4] => { results := [.lit (.bool true)], args := [d1, d2, d3, d4] }
  | _ => none }
def rtoBetweenRow : OpenClaim := { program := "ytccddkkijhedhaadoor", sum := "7f5a1ae4aa86b94dd1905e7ba74595f76ccc59ba6f34115292fc173fbda11079", func := "annex/annexlaw17.RtoBetween", spec := "rtoBetween", unfollowed := true, recurses := true, named := ["annex/rto.rows"], apart := false, laid := [("annex/rto.rows", laid_annex_rto_rows)] }
def RtoBetweenSaid : Prop := rtoBetweenRow.holds Tryd.pinned (OpenSpec.ofChange rtoBetweenSpec)

/-- ITS FALSE NEIGHBOUR: 'it returns false'. Refute it at one input. -/
def rtoBetweenWrong : ChangeSpec := { name := "rtoBetween", fn := fun _ => fun
  | [d1, d2, d3, d4] => { results := [.lit (.bool false)], args := [d1, d2, d3, d4] }
  | _ => none }
def RtoBetweenWrongFalsely : Prop := rtoBetweenRow.holds Tryd.pinned (OpenSpec.ofChange rtoBetweenWrong)

/-- 'annexlaw17.RtoSteady': WHATEVER THE INPUT: true; the input reads as it did. -/
def rtoSteadySpec : ChangeSpec := { name := "rtoSteady", fn := fun _ => fun
  | [d1, d2, d3] => { results := [.lit (.bool true)], args := [d1, d2, d3] }
  | _ => none }
def rtoSteadyRow : OpenClaim := { program := "ytccddkkijhedhaadoor", sum := "7f5a1ae4aa86b94dd1905e7ba74595f76ccc59ba6f34115292fc173fbda11079", func := "annex/annexlaw17.RtoSteady", spec := "rtoSteady", unfollowed := true, recurses := true, named := ["annex/rto.rows"], apart := false, laid := [("annex/rto.rows", laid_annex_rto_rows)] }
def RtoSteadySaid : Prop := rtoSteadyRow.holds Tryd.pinned (OpenSpec.ofChange rtoSteadySpec)

/-- ITS FALSE NEIGHBOUR: 'it returns false'. Refute it at one input. -/
def rtoSteadyWrong : ChangeSpec := { name := "rtoSteady", fn := fun _ => fun
  | [d1, d2, d3] => { results := [.lit (.bool false)], args := [d1, d2, d3] }
  | _ => none }
def RtoSteadyWrongFalsely : Prop := rtoSteadyRow.holds Tryd.pinned (OpenSpec.ofChange rtoSteadyWrong)

/- THE SECOND FORM. 'bulk': how many values and letters a reading holds, each counted each time it is reached (what is shared counts as often as it is met; a slice's spare places count too). A statement '..UptoSaid' is the law's where the arguments, and the package variables that the reading takes, are together of bulk at most 1048576: NARROWER than '..Said'. Prove '..Said' where nothing that the law and all that it calls make is longer than what came in: it says more and counts as full. Else prove '..UptoSaid'. A law counts once. -/
mutual
def uptoBulk {H : Type} : DataW H → Nat
  | .lit (.string bytes) => bytes.length + 1
  | .lit _ => 1
  | .nil => 1
  | .ptr d => uptoBulk d + 1
  | .slice elems spare => uptoBulkAll elems + uptoBulkAll spare + 1
  | .agg parts => uptoBulkAll parts + 1
  | .iface _ d => uptoBulk d + 1
  | .map entries => uptoBulkEntries entries + 1
  | .held _ => 1
def uptoBulkAll {H : Type} : List (DataW H) → Nat
  | [] => 0
  | d :: r => uptoBulk d + uptoBulkAll r
def uptoBulkEntries {H : Type} : List (Lit × DataW H) → Nat
  | [] => 0
  | x :: r => uptoBulkEntry x + uptoBulkEntries r
def uptoBulkEntry {H : Type} : Lit × DataW H → Nat
  | (.string bytes, d) => bytes.length + uptoBulk d + 1
  | (_, d) => uptoBulk d + 1
 end
def uptoSmall : (H : Type) → List (DataW H) → Bool := fun _ ds => decide (uptoBulkAll ds ≤ 1048576)
def OpenSpec.upto (s : _root_.Go.ChangeSpec) : _root_.Go.OpenSpec := { _root_.Go.OpenSpec.ofChange s with cond := some uptoSmall }

/-- 'annexlaw17.RtoStarts', WHERE WHAT IT READS IS OF BULK AT MOST 1048576: true; the input reads as it did. -/
def rtoStartsUptoRow : OpenClaim := { program := "ytccddkkijhedhaadoor", sum := "7f5a1ae4aa86b94dd1905e7ba74595f76ccc59ba6f34115292fc173fbda11079", func := "annex/annexlaw17.RtoStarts", spec := "rtoStarts", unfollowed := true, recurses := true, named := ["annex/rto.rows"], apart := false, laid := [("annex/rto.rows", laid_annex_rto_rows)], narrowed := true }
def RtoStartsUptoSaid : Prop := rtoStartsUptoRow.holds Tryd.pinned (OpenSpec.upto rtoStartsSpec)

/-- 'annexlaw17.RtoSamples', WHERE WHAT IT READS IS OF BULK AT MOST 1048576: true; the input reads as it did. -/
def rtoSamplesUptoRow : OpenClaim := { program := "ytccddkkijhedhaadoor", sum := "7f5a1ae4aa86b94dd1905e7ba74595f76ccc59ba6f34115292fc173fbda11079", func := "annex/annexlaw17.RtoSamples", spec := "rtoSamples", unfollowed := true, recurses := true, named := ["annex/rto.rows"], apart := false, laid := [("annex/rto.rows", laid_annex_rto_rows)], narrowed := true }
def RtoSamplesUptoSaid : Prop := rtoSamplesUptoRow.holds Tryd.pinned (OpenSpec.upto rtoSamplesSpec)

/-- 'annexlaw17.RtoExpires', WHERE WHAT IT READS IS OF BULK AT MOST 1048576: true; the input reads as it did. -/
def rtoExpiresUptoRow : OpenClaim := { program := "ytccddkkijhedhaadoor", sum := "7f5a1ae4aa86b94dd1905e7ba74595f76ccc59ba6f34115292fc173fbda11079", func := "annex/annexlaw17.RtoExpires", spec := "rtoExpires", unfollowed := true, recurses := true, named := ["annex/rto.rows"], apart := false, laid := [("annex/rto.rows", laid_annex_rto_rows)], narrowed := true }
def RtoExpiresUptoSaid : Prop := rtoExpiresUptoRow.holds Tryd.pinned (OpenSpec.upto rtoExpiresSpec)

/-- 'annexlaw17.RtoWaits', WHERE WHAT IT READS IS OF BULK AT MOST 1048576: true; the input reads as it did. -/
def rtoWaitsUptoRow : OpenClaim := { program := "ytccddkkijhedhaadoor", sum := "7f5a1ae4aa86b94dd1905e7ba74595f76ccc59ba6f34115292fc173fbda11079", func := "annex/annexlaw17.RtoWaits", spec := "rtoWaits", unfollowed := true, recurses := true, named := ["annex/rto.rows"], apart := false, laid := [("annex/rto.rows", laid_annex_rto_rows)], narrowed := true }
def RtoWaitsUptoSaid : Prop := rtoWaitsUptoRow.holds Tryd.pinned (OpenSpec.upto rtoWaitsSpec)

/-- 'annexlaw17.RtoRuns', WHERE WHAT IT READS IS OF BULK AT MOST 1048576: true; the input reads as it did. -/
def rtoRunsUptoRow : OpenClaim := { program := "ytccddkkijhedhaadoor", sum := "7f5a1ae4aa86b94dd1905e7ba74595f76ccc59ba6f34115292fc173fbda11079", func := "annex/annexlaw17.RtoRuns", spec := "rtoRuns", unfollowed := true, recurses := true, named := ["annex/rto.rows"], apart := false, laid := [("annex/rto.rows", laid_annex_rto_rows)], narrowed := true }
def RtoRunsUptoSaid : Prop := rtoRunsUptoRow.holds Tryd.pinned (OpenSpec.upto rtoRunsSpec)

/-- 'annexlaw17.RtoClosed', WHERE WHAT IT READS IS OF BULK AT MOST 1048576: true; the input reads as it did. -/
def rtoClosedUptoRow : OpenClaim := { program := "ytccddkkijhedhaadoor", sum := "7f5a1ae4aa86b94dd1905e7ba74595f76ccc59ba6f34115292fc173fbda11079", func := "annex/annexlaw17.RtoClosed", spec := "rtoClosed", unfollowed := true, recurses := true, named := ["annex/rto.rows"], apart := false, laid := [("annex/rto.rows", laid_annex_rto_rows)], narrowed := true }
def RtoClosedUptoSaid : Prop := rtoClosedUptoRow.holds Tryd.pinned (OpenSpec.upto rtoClosedSpec)

/-- 'annexlaw17.RtoDoubles', WHERE WHAT IT READS IS OF BULK AT MOST 1048576: true; the input reads as it did. -/
def rtoDoublesUptoRow : OpenClaim := { program := "ytccddkkijhedhaadoor", sum := "7f5a1ae4aa86b94dd1905e7ba74595f76ccc59ba6f34115292fc173fbda11079", func := "annex/annexlaw17.RtoDoubles", spec := "rtoDoubles", unfollowed := true, recurses := true, named := ["annex/rto.rows"], apart := false, laid := [("annex/rto.rows", laid_annex_rto_rows)], narrowed := true }
def RtoDoublesUptoSaid : Prop := rtoDoublesUptoRow.holds Tryd.pinned (OpenSpec.upto rtoDoublesSpec)

/-- 'annexlaw17.RtoBetween', WHERE WHAT IT READS IS OF BULK AT MOST 1048576: true; the input reads as it did. -/
def rtoBetweenUptoRow : OpenClaim := { program := "ytccddkkijhedhaadoor", sum := "7f5a1ae4aa86b94dd1905e7ba74595f76ccc59ba6f34115292fc173fbda11079", func := "annex/annexlaw17.RtoBetween", spec := "rtoBetween", unfollowed := true, recurses := true, named := ["annex/rto.rows"], apart := false, laid := [("annex/rto.rows", laid_annex_rto_rows)], narrowed := true }
def RtoBetweenUptoSaid : Prop := rtoBetweenUptoRow.holds Tryd.pinned (OpenSpec.upto rtoBetweenSpec)

/-- 'annexlaw17.RtoSteady', WHERE WHAT IT READS IS OF BULK AT MOST 1048576: true; the input reads as it did. -/
def rtoSteadyUptoRow : OpenClaim := { program := "ytccddkkijhedhaadoor", sum := "7f5a1ae4aa86b94dd1905e7ba74595f76ccc59ba6f34115292fc173fbda11079", func := "annex/annexlaw17.RtoSteady", spec := "rtoSteady", unfollowed := true, recurses := true, named := ["annex/rto.rows"], apart := false, laid := [("annex/rto.rows", laid_annex_rto_rows)], narrowed := true }
def RtoSteadyUptoSaid : Prop := rtoSteadyUptoRow.holds Tryd.pinned (OpenSpec.upto rtoSteadySpec)

end Rows
end Go.Proofs.YtccddkkijhedhaaDoor
