/-
  NARROWER THAN 'FOR EVERY INPUT', by the rows' own cells (each row's printed sentence says how): BitsPuts: laid · BitsNumbers: laid · BitsOwn: laid · BitsBack: laid · BitsCut: laid · BitsReads: laid · BitsOneForm: laid.
  DERIVED. THE GIVEN ROWS OF THIS SEAT. 7 by the template 'for every input the law returns true; each argument reads behind the call as it read before'; 0 by the template 'total and deterministic' (their statements: YtjnnlfeohbidhaaDoorTotals.lean).
  GIVEN WITH THE SEED: the statements are not yours to turn. If you find one false, say at which input.
  Laid BY PROGRAM, IN A SANDBOX (cutbox-rows.mjs): the forced cells as the released guide's own fill.sh prints them over the translation 074764898a353007… (all of the seat's roots in one cut). By AI agents, Wed Nov 11 2026. No macro, syntax, notation, axiom, sorry.
-/
import Derived.Test.YtjnnlfeohbidhaaDoorChecked
import GoSem.Claim
import GoSem.ClaimJoined
import GoSem.ClaimMapViews
import Derived.JoinedTies
import Derived.KernelRfl
namespace Go.Proofs.YtjnnlfeohbidhaaDoor
/- THE CELL 'sum', in the pinned program and in every row, IS THE sha256 OF THE DUMP (.gsa) THAT YtjnnlfeohbidhaaDoorProg.lean LOADS. Nothing in Lean hashes anything: it is a label: what it is worth is what the hold of that sum in a sandbox is worth. -/
noncomputable def Tryd.pinned : Pinned := { name := "ytjnnlfeohbidhaadoor", sum := "074764898a3530075807f37b899174ae4b04b6abbac9b07e5d8d3cb8c26393d6", checked := Tryd.checked }
namespace Rows
def none {H : Type} : Left H := { results := [], args := [] }

/- WHAT THE LISTED PACKAGE-LEVEL VARIABLES READ AS WHEN THE CALL BEGINS. Each datum BY PROGRAM (the guide's laid-datum.mjs) off the statement by which the dump's own 'gosem.cut.vars' lays the variable. In a bare row this is a premise. The card (YtjnnlfeohbidhaaDoorCards.lean) ties it to the program's text. -/
def laid_errors_errorType {H : Type} : DataW H := .iface "internal/reflectlite.rtype" (.agg [.ptr (.lit (.string [101, 114, 114, 111, 114]))])
def laid_annex_bits_errTrouble {H : Type} : DataW H := .iface "*errors.errorString" (.ptr (.agg [.lit (.string [98, 105, 116, 115, 58, 32, 110, 111, 32, 115, 117, 99, 104, 32, 102, 105, 101, 108, 100])]))

/-- 'annexlaw1.BitsPuts': WHATEVER THE INPUT: true; the input reads as it did. -/
def bitsPutsSpec : ChangeSpec := { name := "bitsPuts", fn := fun _ => fun
  | [d1, d2] => { results := [.lit (.bool true)], args := [d1, d2] }
  | _ => none }
def bitsPutsRow : OpenClaim := { program := "ytjnnlfeohbidhaadoor", sum := "074764898a3530075807f37b899174ae4b04b6abbac9b07e5d8d3cb8c26393d6", func := "annex/annexlaw1.BitsPuts", spec := "bitsPuts", inPlace := ["internal/reflectlite.TypeOf", "internal/reflectlite.ValueOf", "(internal/reflectlite.Value).Type", "(internal/reflectlite.Value).IsNil", "(internal/reflectlite.Value).Elem", "(internal/reflectlite.Value).Set"], unfollowed := true, recurses := true, named := ["annex/bits.errTrouble", "errors.errorType"], apart := false, laid := [("errors.errorType", laid_errors_errorType), ("annex/bits.errTrouble", laid_annex_bits_errTrouble)] }
def BitsPutsSaid : Prop := bitsPutsRow.holds Tryd.pinned (OpenSpec.ofChange bitsPutsSpec)

/-- ITS FALSE NEIGHBOUR: 'it returns false'. Refute it at one input. -/
def bitsPutsWrong : ChangeSpec := { name := "bitsPuts", fn := fun _ => fun
  | [d1, d2] => { results := [.lit (.bool false)], args := [d1, d2] }
  | _ => none }
def BitsPutsWrongFalsely : Prop := bitsPutsRow.holds Tryd.pinned (OpenSpec.ofChange bitsPutsWrong)

/-- 'annexlaw1.BitsNumbers': WHATEVER THE INPUT: true; the input reads as it did. -/
def bitsNumbersSpec : ChangeSpec := { name := "bitsNumbers", fn := fun _ => fun
  | [d1, d2] => { results := [.lit (.bool true)], args := [d1, d2] }
  | _ => none }
def bitsNumbersRow : OpenClaim := { program := "ytjnnlfeohbidhaadoor", sum := "074764898a3530075807f37b899174ae4b04b6abbac9b07e5d8d3cb8c26393d6", func := "annex/annexlaw1.BitsNumbers", spec := "bitsNumbers", inPlace := ["internal/reflectlite.TypeOf", "internal/reflectlite.ValueOf", "(internal/reflectlite.Value).Type", "(internal/reflectlite.Value).IsNil", "(internal/reflectlite.Value).Elem", "(internal/reflectlite.Value).Set"], unfollowed := true, recurses := true, named := ["annex/bits.errTrouble", "errors.errorType"], apart := false, laid := [("errors.errorType", laid_errors_errorType), ("annex/bits.errTrouble", laid_annex_bits_errTrouble)] }
def BitsNumbersSaid : Prop := bitsNumbersRow.holds Tryd.pinned (OpenSpec.ofChange bitsNumbersSpec)

/-- ITS FALSE NEIGHBOUR: 'it returns false'. Refute it at one input. -/
def bitsNumbersWrong : ChangeSpec := { name := "bitsNumbers", fn := fun _ => fun
  | [d1, d2] => { results := [.lit (.bool false)], args := [d1, d2] }
  | _ => none }
def BitsNumbersWrongFalsely : Prop := bitsNumbersRow.holds Tryd.pinned (OpenSpec.ofChange bitsNumbersWrong)

/-- 'annexlaw1.BitsOwn': WHATEVER THE INPUT: true; the input reads as it did. -/
def bitsOwnSpec : ChangeSpec := { name := "bitsOwn", fn := fun _ => fun
  | [d1, d2] => { results := [.lit (.bool true)], args := [d1, d2] }
  | _ => none }
def bitsOwnRow : OpenClaim := { program := "ytjnnlfeohbidhaadoor", sum := "074764898a3530075807f37b899174ae4b04b6abbac9b07e5d8d3cb8c26393d6", func := "annex/annexlaw1.BitsOwn", spec := "bitsOwn", inPlace := ["internal/reflectlite.TypeOf", "internal/reflectlite.ValueOf", "(internal/reflectlite.Value).Type", "(internal/reflectlite.Value).IsNil", "(internal/reflectlite.Value).Elem", "(internal/reflectlite.Value).Set"], unfollowed := true, recurses := true, named := ["annex/bits.errTrouble", "errors.errorType"], apart := false, laid := [("errors.errorType", laid_errors_errorType), ("annex/bits.errTrouble", laid_annex_bits_errTrouble)] }
def BitsOwnSaid : Prop := bitsOwnRow.holds Tryd.pinned (OpenSpec.ofChange bitsOwnSpec)

/-- ITS FALSE NEIGHBOUR: 'it returns false'. Refute it at one input. -/
def bitsOwnWrong : ChangeSpec := { name := "bitsOwn", fn := fun _ => fun
  | [d1, d2] => { results := [.lit (.bool false)], args := [d1, d2] }
  | _ => none }
def BitsOwnWrongFalsely : Prop := bitsOwnRow.holds Tryd.pinned (OpenSpec.ofChange bitsOwnWrong)

/-- 'annexlaw1.BitsBack': WHATEVER THE INPUT: true; the input reads as it did. -/
def bitsBackSpec : ChangeSpec := { name := "bitsBack", fn := fun _ => fun
  | [d1, d2] => { results := [.lit (.bool true)], args := [d1, d2] }
  | _ => none }
def bitsBackRow : OpenClaim := { program := "ytjnnlfeohbidhaadoor", sum := "074764898a3530075807f37b899174ae4b04b6abbac9b07e5d8d3cb8c26393d6", func := "annex/annexlaw1.BitsBack", spec := "bitsBack", inPlace := ["internal/reflectlite.TypeOf", "internal/reflectlite.ValueOf", "(internal/reflectlite.Value).Type", "(internal/reflectlite.Value).IsNil", "(internal/reflectlite.Value).Elem", "(internal/reflectlite.Value).Set"], unfollowed := true, recurses := true, named := ["annex/bits.errTrouble", "errors.errorType"], apart := false, laid := [("errors.errorType", laid_errors_errorType), ("annex/bits.errTrouble", laid_annex_bits_errTrouble)] }
def BitsBackSaid : Prop := bitsBackRow.holds Tryd.pinned (OpenSpec.ofChange bitsBackSpec)

/-- ITS FALSE NEIGHBOUR: 'it returns false'. Refute it at one input. -/
def bitsBackWrong : ChangeSpec := { name := "bitsBack", fn := fun _ => fun
  | [d1, d2] => { results := [.lit (.bool false)], args := [d1, d2] }
  | _ => none }
def BitsBackWrongFalsely : Prop := bitsBackRow.holds Tryd.pinned (OpenSpec.ofChange bitsBackWrong)

/-- 'annexlaw1.BitsCut': WHATEVER THE INPUT: true; the input reads as it did. -/
def bitsCutSpec : ChangeSpec := { name := "bitsCut", fn := fun _ => fun
  | [d1, d2] => { results := [.lit (.bool true)], args := [d1, d2] }
  | _ => none }
def bitsCutRow : OpenClaim := { program := "ytjnnlfeohbidhaadoor", sum := "074764898a3530075807f37b899174ae4b04b6abbac9b07e5d8d3cb8c26393d6", func := "annex/annexlaw1.BitsCut", spec := "bitsCut", inPlace := ["internal/reflectlite.TypeOf", "internal/reflectlite.ValueOf", "(internal/reflectlite.Value).Type", "(internal/reflectlite.Value).IsNil", "(internal/reflectlite.Value).Elem", "(internal/reflectlite.Value).Set"], unfollowed := true, recurses := true, named := ["annex/bits.errTrouble", "errors.errorType"], apart := false, laid := [("errors.errorType", laid_errors_errorType), ("annex/bits.errTrouble", laid_annex_bits_errTrouble)] }
def BitsCutSaid : Prop := bitsCutRow.holds Tryd.pinned (OpenSpec.ofChange bitsCutSpec)

/-- ITS FALSE NEIGHBOUR: 'it returns false'. Refute it at one input. -/
def bitsCutWrong : ChangeSpec := { name := "bitsCut", fn := fun _ => fun
  | [d1, d2] => { results := [.lit (.bool false)], args := [d1, d2] }
  | _ => none }
def BitsCutWrongFalsely : Prop := bitsCutRow.holds Tryd.pinned (OpenSpec.ofChange bitsCutWrong)

/-- 'annexlaw1.BitsReads': WHATEVER THE INPUT: true; the input reads as it did. -/
def bitsReadsSpec : ChangeSpec := { name := "bitsReads", fn := fun _ => fun
  | [d1, d2, d3] => { results := [.lit (.bool true)], args := [d1, d2, d3] }
  | _ => none }
def bitsReadsRow : OpenClaim := { program := "ytjnnlfeohbidhaadoor", sum := "074764898a3530075807f37b899174ae4b04b6abbac9b07e5d8d3cb8c26393d6", func := "annex/annexlaw1.BitsReads", spec := "bitsReads", inPlace := ["internal/reflectlite.TypeOf", "internal/reflectlite.ValueOf", "(internal/reflectlite.Value).Type", "(internal/reflectlite.Value).IsNil", "(internal/reflectlite.Value).Elem", "(internal/reflectlite.Value).Set"], unfollowed := true, recurses := true, named := ["annex/bits.errTrouble", "errors.errorType"], apart := false, laid := [("errors.errorType", laid_errors_errorType), ("annex/bits.errTrouble", laid_annex_bits_errTrouble)] }
def BitsReadsSaid : Prop := bitsReadsRow.holds Tryd.pinned (OpenSpec.ofChange bitsReadsSpec)

/-- ITS FALSE NEIGHBOUR: 'it returns false'. Refute it at one input. -/
def bitsReadsWrong : ChangeSpec := { name := "bitsReads", fn := fun _ => fun
  | [d1, d2, d3] => { results := [.lit (.bool false)], args := [d1, d2, d3] }
  | _ => none }
def BitsReadsWrongFalsely : Prop := bitsReadsRow.holds Tryd.pinned (OpenSpec.ofChange bitsReadsWrong)

/-- 'annexlaw1.BitsOneForm': WHATEVER THE INPUT: true; the input reads as it did. -/
def bitsOneFormSpec : ChangeSpec := { name := "bitsOneForm", fn := fun _ => fun
  | [d1, d2] => { results := [.lit (.bool true)], args := [d1, d2] }
  | _ => none }
def bitsOneFormRow : OpenClaim := { program := "ytjnnlfeohbidhaadoor", sum := "074764898a3530075807f37b899174ae4b04b6abbac9b07e5d8d3cb8c26393d6", func := "annex/annexlaw1.BitsOneForm", spec := "bitsOneForm", inPlace := ["internal/reflectlite.TypeOf", "internal/reflectlite.ValueOf", "(internal/reflectlite.Value).Type", "(internal/reflectlite.Value).IsNil", "(internal/reflectlite.Value).Elem", "(internal/reflectlite.Value).Set"], unfollowed := true, recurses := true, named := ["annex/bits.errTrouble", "errors.errorType"], apart := false, laid := [("errors.errorType", laid_errors_errorType), ("annex/bits.errTrouble", laid_annex_bits_errTrouble)] }
def BitsOneFormSaid : Prop := bitsOneFormRow.holds Tryd.pinned (OpenSpec.ofChange bitsOneFormSpec)

/-- ITS FALSE NEIGHBOUR: 'it returns false'. Refute it at one input. -/
def bitsOneFormWrong : ChangeSpec := { name := "bitsOneForm", fn := fun _ => fun
  | [d1, d2] => { results := [.lit (.bool false)], args := [d1, d2] }
  | _ => none }
def BitsOneFormWrongFalsely : Prop := bitsOneFormRow.holds Tryd.pinned (OpenSpec.ofChange bitsOneFormWrong)

/- THE SECOND FORM. 'bulk': how many values and letters a reading holds, each counted each time it is reached (what is shared counts as often as it is met; a slice's spare places count too). A statement '..UptoSaid' is the law's where the arguments, and the package variables that the reading takes, are together of bulk at most 1048576: NARROWER than '..Said'. Prove '..Said' where nothing that the law and all that it calls make is longer than what came in: it says more and counts as full. Else prove '..UptoSaid'. A law counts once. -/
mutual
def uptoBulk {H : Type} : DataW H → Nat
  | .lit (.string bytes) => bytes.length + 1
  | .lit _ => 1
  | .nil => 1
  | .ptr d => uptoBulk d + 1
  | .slice elems spare => uptoBulkAll elems + uptoBulkAll spare + 1
  | .agg parts => uptoBulkAll parts + 1
  | .iface _ d => uptoBulk d + 1
  | .map entries => uptoBulkEntries entries + 1
  | .held _ => 1
def uptoBulkAll {H : Type} : List (DataW H) → Nat
  | [] => 0
  | d :: r => uptoBulk d + uptoBulkAll r
def uptoBulkEntries {H : Type} : List (Lit × DataW H) → Nat
  | [] => 0
  | x :: r => uptoBulkEntry x + uptoBulkEntries r
def uptoBulkEntry {H : Type} : Lit × DataW H → Nat
  | (.string bytes, d) => bytes.length + uptoBulk d + 1
  | (_, d) => uptoBulk d + 1
 end
def uptoSmall : (H : Type) → List (DataW H) → Bool := fun _ ds => decide (uptoBulkAll ds ≤ 1048576)
def OpenSpec.upto (s : _root_.Go.ChangeSpec) : _root_.Go.OpenSpec := { _root_.Go.OpenSpec.ofChange s with cond := some uptoSmall }

/-- 'annexlaw1.BitsPuts', WHERE WHAT IT READS IS OF BULK AT MOST 1048576: true; the input reads as it did. -/
def bitsPutsUptoRow : OpenClaim := { program := "ytjnnlfeohbidhaadoor", sum := "074764898a3530075807f37b899174ae4b04b6abbac9b07e5d8d3cb8c26393d6", func := "annex/annexlaw1.BitsPuts", spec := "bitsPuts", inPlace := ["internal/reflectlite.TypeOf", "internal/reflectlite.ValueOf", "(internal/reflectlite.Value).Type", "(internal/reflectlite.Value).IsNil", "(internal/reflectlite.Value).Elem", "(internal/reflectlite.Value).Set"], unfollowed := true, recurses := true, named := ["annex/bits.errTrouble", "errors.errorType"], apart := false, laid := [("errors.errorType", laid_errors_errorType), ("annex/bits.errTrouble", laid_annex_bits_errTrouble)], narrowed := true }
def BitsPutsUptoSaid : Prop := bitsPutsUptoRow.holds Tryd.pinned (OpenSpec.upto bitsPutsSpec)

/-- 'annexlaw1.BitsNumbers', WHERE WHAT IT READS IS OF BULK AT MOST 1048576: true; the input reads as it did. -/
def bitsNumbersUptoRow : OpenClaim := { program := "ytjnnlfeohbidhaadoor", sum := "074764898a3530075807f37b899174ae4b04b6abbac9b07e5d8d3cb8c26393d6", func := "annex/annexlaw1.BitsNumbers", spec := "bitsNumbers", inPlace := ["internal/reflectlite.TypeOf", "internal/reflectlite.ValueOf", "(internal/reflectlite.Value).Type", "(internal/reflectlite.Value).IsNil", "(internal/reflectlite.Value).Elem", "(internal/reflectlite.Value).Set"], unfollowed := true, recurses := true, named := ["annex/bits.errTrouble", "errors.errorType"], apart := false, laid := [("errors.errorType", laid_errors_errorType), ("annex/bits.errTrouble", laid_annex_bits_errTrouble)], narrowed := true }
def BitsNumbersUptoSaid : Prop := bitsNumbersUptoRow.holds Tryd.pinned (OpenSpec.upto bitsNumbersSpec)

/-- 'annexlaw1.BitsOwn', WHERE WHAT IT READS IS OF BULK AT MOST 1048576: true; the input reads as it did. -/
def bitsOwnUptoRow : OpenClaim := { program := "ytjnnlfeohbidhaadoor", sum := "074764898a3530075807f37b899174ae4b04b6abbac9b07e5d8d3cb8c26393d6", func := "annex/annexlaw1.BitsOwn", spec := "bitsOwn", inPlace := ["internal/reflectlite.TypeOf", "internal/reflectlite.ValueOf", "(internal/reflectlite.Value).Type", "(internal/reflectlite.Value).IsNil", "(internal/reflectlite.Value).Elem", "(internal/reflectlite.Value).Set"], unfollowed := true, recurses := true, named := ["annex/bits.errTrouble", "errors.errorType"], apart := false, laid := [("errors.errorType", laid_errors_errorType), ("annex/bits.errTrouble", laid_annex_bits_errTrouble)], narrowed := true }
def BitsOwnUptoSaid : Prop := bitsOwnUptoRow.holds Tryd.pinned (OpenSpec.upto bitsOwnSpec)

/-- 'annexlaw1.BitsBack', WHERE WHAT IT READS IS OF BULK AT MOST 1048576: true; the input reads as it did. -/
def bitsBackUptoRow : OpenClaim := { program := "ytjnnlfeohbidhaadoor", sum := "074764898a3530075807f37b899174ae4b04b6abbac9b07e5d8d3cb8c26393d6", func := "annex/annexlaw1.BitsBack", spec := "bitsBack", inPlace := ["internal/reflectlite.TypeOf", "internal/reflectlite.ValueOf", "(internal/reflectlite.Value).Type", "(internal/reflectlite.Value).IsNil", "(internal/reflectlite.Value).Elem", "(internal/reflectlite.Value).Set"], unfollowed := true, recurses := true, named := ["annex/bits.errTrouble", "errors.errorType"], apart := false, laid := [("errors.errorType", laid_errors_errorType), ("annex/bits.errTrouble", laid_annex_bits_errTrouble)], narrowed := true }
def BitsBackUptoSaid : Prop := bitsBackUptoRow.holds Tryd.pinned (OpenSpec.upto bitsBackSpec)

/-- 'annexlaw1.BitsCut', WHERE WHAT IT READS IS OF BULK AT MOST 1048576: true; the input reads as it did. -/
def bitsCutUptoRow : OpenClaim := { program := "ytjnnlfeohbidhaadoor", sum := "074764898a3530075807f37b899174ae4b04b6abbac9b07e5d8d3cb8c26393d6", func := "annex/annexlaw1.BitsCut", spec := "bitsCut", inPlace := ["internal/reflectlite.TypeOf", "internal/reflectlite.ValueOf", "(internal/reflectlite.Value).Type", "(internal/reflectlite.Value).IsNil", "(internal/reflectlite.Value).Elem", "(internal/reflectlite.Value).Set"], unfollowed := true, recurses := true, named := ["annex/bits.errTrouble", "errors.errorType"], apart := false, laid := [("errors.errorType", laid_errors_errorType), ("annex/bits.errTrouble", laid_annex_bits_errTrouble)], narrowed := true }
def BitsCutUptoSaid : Prop := bitsCutUptoRow.holds Tryd.pinned (OpenSpec.upto bitsCutSpec)

/-- 'annexlaw1.BitsReads', WHERE WHAT IT READS IS OF BULK AT MOST 1048576: true; the input reads as it did. -/
def bitsReadsUptoRow : OpenClaim := { program := "ytjnnlfeohbidhaadoor", sum := "074764898a3530075807f37b899174ae4b04b6abbac9b07e5d8d3cb8c26393d6", func := "annex/annexlaw1.BitsReads", spec := "bitsReads", inPlace := ["internal/reflectlite.TypeOf", "internal/reflectlite.ValueOf", "(internal/reflectlite.Value).Type", "(internal/reflectlite.Value).IsNil", "(internal/reflectlite.Value).Elem", "(internal/reflectlite.Value).Set"], unfollowed := true, recurses := true, named := ["annex/bits.errTrouble", "errors.errorType"], apart := false, laid := [("errors.errorType", laid_errors_errorType), ("annex/bits.errTrouble", laid_annex_bits_errTrouble)], narrowed := true }
def BitsReadsUptoSaid : Prop := bitsReadsUptoRow.holds Tryd.pinned (OpenSpec.upto bitsReadsSpec)

/-- 'annexlaw1.BitsOneForm', WHERE WHAT IT READS IS OF BULK AT MOST 1048576: true; the input reads as it did. -/
def bitsOneFormUptoRow : OpenClaim := { program := "ytjnnlfeohbidhaadoor", sum := "074764898a3530075807f37b899174ae4b04b6abbac9b07e5d8d3cb8c26393d6", func := "annex/annexlaw1.BitsOneForm", spec := "bitsOneForm", inPlace := ["internal/reflectlite.TypeOf", "internal/reflectlite.ValueOf", "(internal/reflectlite.Value).Type", "(internal/reflectlite.Value).IsNil", "(internal/reflectlite.Value).Elem", "(internal/reflectlite.Value).Set"], unfollowed := true, recurses := true, named := ["annex/bits.errTrouble", "errors.errorType"], apart := false, laid := [("errors.errorType", laid_errors_errorType), ("annex/bits.errTrouble", laid_annex_bits_errTrouble)], narrowed := true }
def BitsOneFormUptoSaid : Prop := bitsOneFormUptoRow.holds Tryd.pinned (OpenSpec.upto bitsOneFormSpec)

end Rows
end Go.Proofs.YtjnnlfeohbidhaaDoor
