/-
  NARROWER THAN 'FOR EVERY INPUT', by the rows' own cells (each row's printed sentence says how): MsgChecks: laid · MsgEncodes: laid · MsgOneByte: laid · MsgSums: laid · MsgUnlike: laid · MsgOwn: laid · MsgDecodes: laid · MsgBack: laid · MsgOneForm: laid.
  DERIVED. THE GIVEN ROWS OF THIS SEAT. 9 by the template 'for every input the law returns true; each argument reads behind the call as it read before'; 0 by the template 'total and deterministic' (their statements: YtfolhmlldoepfaaGreatDoorTotals.lean).
  GIVEN WITH THE SEED: the statements are not yours to turn. If you find one false, say at which input.
  Laid BY PROGRAM, IN A SANDBOX (cutbox-rows.mjs): the forced cells as the released guide's own fill.sh prints them over the translation 1ca030982ac03786… (all of the seat's roots in one cut). By AI agents, Wed Nov 11 2026. No macro, syntax, notation, axiom, sorry.
-/
import Derived.Test.YtfolhmlldoepfaaGreatDoorChecked
import GoSem.Claim
import GoSem.ClaimJoined
import GoSem.ClaimMapViews
import Derived.JoinedTies
import Derived.KernelRfl
namespace Go.Proofs.YtfolhmlldoepfaaGreatDoor
/- THE CELL 'sum', in the pinned program and in every row, IS THE sha256 OF THE DUMP (.gsa) THAT YtfolhmlldoepfaaGreatDoorProg.lean LOADS. Nothing in Lean hashes anything: it is a label: what it is worth is what the hold of that sum in a sandbox is worth. -/
noncomputable def Tryz.pinned : Pinned := { name := "ytfolhmlldoepfaagreatdoor", sum := "1ca030982ac03786eff3a7662c160538e3886c5203a71d63af04783e06d32260", checked := Tryz.checked }
namespace Rows
def none {H : Type} : Left H := { results := [], args := [] }

/- WHAT THE LISTED PACKAGE-LEVEL VARIABLES READ AS WHEN THE CALL BEGINS. Each datum BY PROGRAM (the guide's laid-datum.mjs) off the statement by which the dump's own 'gosem.cut.vars' lays the variable. In a bare row this is a premise. The card (YtfolhmlldoepfaaGreatDoorCards.lean) ties it to the program's text. -/
def laid_errors_errorType {H : Type} : DataW H := .iface "internal/reflectlite.rtype" (.agg [.ptr (.lit (.string [101, 114, 114, 111, 114]))])
def laid_annex_bits_errTrouble {H : Type} : DataW H := .iface "*errors.errorString" (.ptr (.agg [.lit (.string [98, 105, 116, 115, 58, 32, 110, 111, 32, 115, 117, 99, 104, 32, 102, 105, 101, 108, 100])]))
def laid_annex_msg_asked {H : Type} : DataW H := .agg [.agg [.nil, .nil], .agg [.slice [.lit (.int .i64 3)] [], .slice [.lit (.int .i64 8)] []], .agg [.slice [.lit (.int .i64 0)] [], .slice [.lit (.int .i64 8)] []], .agg [.slice [.lit (.int .i64 0), .lit (.int .i64 1), .lit (.int .i64 2)] [], .slice [.lit (.int .i64 8), .lit (.int .i64 9)] []], .agg [.slice [.lit (.int .i64 0), .lit (.int .i64 1), .lit (.int .i64 7)] [], .slice [.lit (.int .i64 8)] []], .agg [.slice [.lit (.int .i64 0), .lit (.int .i64 4)] [], .slice [.lit (.int .i64 8)] []], .agg [.slice [.lit (.int .i64 0), .lit (.int .i64 4)] [], .nil], .agg [.slice [.lit (.int .i64 0), .lit (.int .i64 4)] [], .slice [.lit (.int .i64 8)] []], .agg [.slice [.lit (.int .i64 0), .lit (.int .i64 4)] [], .nil], .agg [.slice [.lit (.int .i64 0), .lit (.int .i64 4), .lit (.int .i64 5), .lit (.int .i64 6)] [], .nil], .agg [.slice [.lit (.int .i64 0), .lit (.int .i64 2), .lit (.int .i64 4)] [], .slice [.lit (.int .i64 10), .lit (.int .i64 11)] []]]

/-- 'annexlaw4.MsgChecks': WHATEVER THE INPUT: true; the input reads as it did. -/
def msgChecksSpec : ChangeSpec := { name := "msgChecks", fn := fun _ => fun
  | [d1, d2] => { results := [.lit (.bool true)], args := [d1, d2] }
  | _ => none }
def msgChecksRow : OpenClaim := { program := "ytfolhmlldoepfaagreatdoor", sum := "1ca030982ac03786eff3a7662c160538e3886c5203a71d63af04783e06d32260", func := "annex/annexlaw4.MsgChecks", spec := "msgChecks", inPlace := ["internal/bytealg.IndexByteString", "internal/reflectlite.TypeOf", "internal/reflectlite.ValueOf", "(internal/reflectlite.Value).Type", "(internal/reflectlite.Value).IsNil", "(internal/reflectlite.Value).Elem", "(internal/reflectlite.Value).Set"], unfollowed := true, recurses := true, named := ["annex/msg.asked", "annex/bits.errTrouble", "errors.errorType"], apart := false, laid := [("errors.errorType", laid_errors_errorType), ("annex/bits.errTrouble", laid_annex_bits_errTrouble), ("annex/msg.asked", laid_annex_msg_asked)] }
def MsgChecksSaid : Prop := msgChecksRow.holds Tryz.pinned (OpenSpec.ofChange msgChecksSpec)

/-- ITS FALSE NEIGHBOUR: 'it returns false'. Refute it at one input. -/
def msgChecksWrong : ChangeSpec := { name := "msgChecks", fn := fun _ => fun
  | [d1, d2] => { results := [.lit (.bool false)], args := [d1, d2] }
  | _ => none }
def MsgChecksWrongFalsely : Prop := msgChecksRow.holds Tryz.pinned (OpenSpec.ofChange msgChecksWrong)

/-- 'annexlaw4.MsgEncodes': WHATEVER THE INPUT: true; the input reads as it did. -/
def msgEncodesSpec : ChangeSpec := { name := "msgEncodes", fn := fun _ => fun
  | [d1, d2] => { results := [.lit (.bool true)], args := [d1, d2] }
  | _ => none }
def msgEncodesRow : OpenClaim := { program := "ytfolhmlldoepfaagreatdoor", sum := "1ca030982ac03786eff3a7662c160538e3886c5203a71d63af04783e06d32260", func := "annex/annexlaw4.MsgEncodes", spec := "msgEncodes", inPlace := ["internal/bytealg.IndexByteString", "internal/reflectlite.TypeOf", "internal/reflectlite.ValueOf", "(internal/reflectlite.Value).Type", "(internal/reflectlite.Value).IsNil", "(internal/reflectlite.Value).Elem", "(internal/reflectlite.Value).Set"], unfollowed := true, recurses := true, named := ["annex/msg.asked", "annex/bits.errTrouble", "errors.errorType"], apart := false, laid := [("errors.errorType", laid_errors_errorType), ("annex/bits.errTrouble", laid_annex_bits_errTrouble), ("annex/msg.asked", laid_annex_msg_asked)] }
def MsgEncodesSaid : Prop := msgEncodesRow.holds Tryz.pinned (OpenSpec.ofChange msgEncodesSpec)

/-- ITS FALSE NEIGHBOUR: 'it returns false'. Refute it at one input. -/
def msgEncodesWrong : ChangeSpec := { name := "msgEncodes", fn := fun _ => fun
  | [d1, d2] => { results := [.lit (.bool false)], args := [d1, d2] }
  | _ => none }
def MsgEncodesWrongFalsely : Prop := msgEncodesRow.holds Tryz.pinned (OpenSpec.ofChange msgEncodesWrong)

/-- 'annexlaw4.MsgOneByte': WHATEVER THE INPUT: true; the input reads as it did. -/
def msgOneByteSpec : ChangeSpec := { name := "msgOneByte", fn := fun _ => fun
  | [d1, d2, d3, d4] => { results := [.lit (.bool true)], args := [d1, d2, d3, d4] }
  | _ => none }
def msgOneByteRow : OpenClaim := { program := "ytfolhmlldoepfaagreatdoor", sum := "1ca030982ac03786eff3a7662c160538e3886c5203a71d63af04783e06d32260", func := "annex/annexlaw4.MsgOneByte", spec := "msgOneByte", inPlace := ["internal/bytealg.IndexByteString", "internal/reflectlite.TypeOf", "internal/reflectlite.ValueOf", "(internal/reflectlite.Value).Type", "(internal/reflectlite.Value).IsNil", "(internal/reflectlite.Value).Elem", "(internal/reflectlite.Value).Set"], unfollowed := true, recurses := true, named := ["annex/msg.asked", "annex/bits.errTrouble", "errors.errorType"], apart := false, laid := [("errors.errorType", laid_errors_errorType), ("annex/bits.errTrouble", laid_annex_bits_errTrouble), ("annex/msg.asked", laid_annex_msg_asked)] }
def MsgOneByteSaid : Prop := msgOneByteRow.holds Tryz.pinned (OpenSpec.ofChange msgOneByteSpec)

/-- ITS FALSE NEIGHBOUR: 'it returns false'. Refute it at one input. -/
def msgOneByteWrong : ChangeSpec := { name := "msgOneByte", fn := fun _ => fun
  | [d1, d2, d3, d4] => { results := [.lit (.bool false)], args := [d1, d2, d3, d4] }
  | _ => none }
def MsgOneByteWrongFalsely : Prop := msgOneByteRow.holds Tryz.pinned (OpenSpec.ofChange msgOneByteWrong)

/-- 'annexlaw4.MsgSums': WHATEVER THE INPUT: true; the input reads as it did. -/
def msgSumsSpec : ChangeSpec := { name := "msgSums", fn := fun _ => fun
  | [d1, d2] => { results := [.lit (.bool true)], args := [d1, d2] }
  | _ => none }
def msgSumsRow : OpenClaim := { program := "ytfolhmlldoepfaagreatdoor", sum := "1ca030982ac03786eff3a7662c160538e3886c5203a71d63af04783e06d32260", func := "annex/annexlaw4.MsgSums", spec := "msgSums", inPlace := ["internal/bytealg.IndexByteString", "internal/reflectlite.TypeOf", "internal/reflectlite.ValueOf", "(internal/reflectlite.Value).Type", "(internal/reflectlite.Value).IsNil", "(internal/reflectlite.Value).Elem", "(internal/reflectlite.Value).Set"], unfollowed := true, recurses := true, named := ["annex/msg.asked", "annex/bits.errTrouble", "errors.errorType"], apart := false, laid := [("errors.errorType", laid_errors_errorType), ("annex/bits.errTrouble", laid_annex_bits_errTrouble), ("annex/msg.asked", laid_annex_msg_asked)] }
def MsgSumsSaid : Prop := msgSumsRow.holds Tryz.pinned (OpenSpec.ofChange msgSumsSpec)

/-- ITS FALSE NEIGHBOUR: 'it returns false'. Refute it at one input. -/
def msgSumsWrong : ChangeSpec := { name := "msgSums", fn := fun _ => fun
  | [d1, d2] => { results := [.lit (.bool false)], args := [d1, d2] }
  | _ => none }
def MsgSumsWrongFalsely : Prop := msgSumsRow.holds Tryz.pinned (OpenSpec.ofChange msgSumsWrong)

/-- 'annexlaw4.MsgUnlike': WHATEVER THE INPUT: true; the input reads as it did. -/
def msgUnlikeSpec : ChangeSpec := { name := "msgUnlike", fn := fun _ => fun
  | [d1, d2, d3, d4] => { results := [.lit (.bool true)], args := [d1, d2, d3, d4] }
  | _ => none }
def msgUnlikeRow : OpenClaim := { program := "ytfolhmlldoepfaagreatdoor", sum := "1ca030982ac03786eff3a7662c160538e3886c5203a71d63af04783e06d32260", func := "annex/annexlaw4.MsgUnlike", spec := "msgUnlike", inPlace := ["internal/bytealg.IndexByteString", "internal/reflectlite.TypeOf", "internal/reflectlite.ValueOf", "(internal/reflectlite.Value).Type", "(internal/reflectlite.Value).IsNil", "(internal/reflectlite.Value).Elem", "(internal/reflectlite.Value).Set"], unfollowed := true, recurses := true, named := ["annex/msg.asked", "annex/bits.errTrouble", "errors.errorType"], apart := false, laid := [("errors.errorType", laid_errors_errorType), ("annex/bits.errTrouble", laid_annex_bits_errTrouble), ("annex/msg.asked", laid_annex_msg_asked)] }
def MsgUnlikeSaid : Prop := msgUnlikeRow.holds Tryz.pinned (OpenSpec.ofChange msgUnlikeSpec)

/-- ITS FALSE NEIGHBOUR: 'it returns false'. Refute it at one input. -/
def msgUnlikeWrong : ChangeSpec := { name := "msgUnlike", fn := fun _ => fun
  | [d1, d2, d3, d4] => { results := [.lit (.bool false)], args := [d1, d2, d3, d4] }
  | _ => none }
def MsgUnlikeWrongFalsely : Prop := msgUnlikeRow.holds Tryz.pinned (OpenSpec.ofChange msgUnlikeWrong)

/-- 'annexlaw4.MsgOwn': WHATEVER THE INPUT: true; the input reads as it did. -/
def msgOwnSpec : ChangeSpec := { name := "msgOwn", fn := fun _ => fun
  | [d1, d2] => { results := [.lit (.bool true)], args := [d1, d2] }
  | _ => none }
def msgOwnRow : OpenClaim := { program := "ytfolhmlldoepfaagreatdoor", sum := "1ca030982ac03786eff3a7662c160538e3886c5203a71d63af04783e06d32260", func := "annex/annexlaw4.MsgOwn", spec := "msgOwn", inPlace := ["internal/bytealg.IndexByteString", "internal/reflectlite.TypeOf", "internal/reflectlite.ValueOf", "(internal/reflectlite.Value).Type", "(internal/reflectlite.Value).IsNil", "(internal/reflectlite.Value).Elem", "(internal/reflectlite.Value).Set"], unfollowed := true, recurses := true, named := ["annex/msg.asked", "annex/bits.errTrouble", "errors.errorType"], apart := false, laid := [("errors.errorType", laid_errors_errorType), ("annex/bits.errTrouble", laid_annex_bits_errTrouble), ("annex/msg.asked", laid_annex_msg_asked)] }
def MsgOwnSaid : Prop := msgOwnRow.holds Tryz.pinned (OpenSpec.ofChange msgOwnSpec)

/-- ITS FALSE NEIGHBOUR: 'it returns false'. Refute it at one input. -/
def msgOwnWrong : ChangeSpec := { name := "msgOwn", fn := fun _ => fun
  | [d1, d2] => { results := [.lit (.bool false)], args := [d1, d2] }
  | _ => none }
def MsgOwnWrongFalsely : Prop := msgOwnRow.holds Tryz.pinned (OpenSpec.ofChange msgOwnWrong)

/-- 'annexlaw4.MsgDecodes': WHATEVER THE INPUT: true; the input reads as it did. -/
def msgDecodesSpec : ChangeSpec := { name := "msgDecodes", fn := fun _ => fun
  | [d] => { results := [.lit (.bool true)], args := [d] }
  | _ => none }
def msgDecodesRow : OpenClaim := { program := "ytfolhmlldoepfaagreatdoor", sum := "1ca030982ac03786eff3a7662c160538e3886c5203a71d63af04783e06d32260", func := "annex/annexlaw4.MsgDecodes", spec := "msgDecodes", inPlace := ["internal/bytealg.IndexByteString", "internal/reflectlite.TypeOf", "internal/reflectlite.ValueOf", "(internal/reflectlite.Value).Type", "(internal/reflectlite.Value).IsNil", "(internal/reflectlite.Value).Elem", "(internal/reflectlite.Value).Set"], unfollowed := true, recurses := true, named := ["annex/msg.asked", "annex/bits.errTrouble", "errors.errorType"], apart := false, laid := [("errors.errorType", laid_errors_errorType), ("annex/bits.errTrouble", laid_annex_bits_errTrouble), ("annex/msg.asked", laid_annex_msg_asked)] }
def MsgDecodesSaid : Prop := msgDecodesRow.holds Tryz.pinned (OpenSpec.ofChange msgDecodesSpec)

/-- ITS FALSE NEIGHBOUR: 'it returns false'. Refute it at one input. -/
def msgDecodesWrong : ChangeSpec := { name := "msgDecodes", fn := fun _ => fun
  | [d] => { results := [.lit (.bool false)], args := [d] }
  | _ => none }
def MsgDecodesWrongFalsely : Prop := msgDecodesRow.holds Tryz.pinned (OpenSpec.ofChange msgDecodesWrong)

/-- 'annexlaw4.MsgBack': WHATEVER THE INPUT: true; the input reads as it did. -/
def msgBackSpec : ChangeSpec := { name := "msgBack", fn := fun _ => fun
  | [d1, d2] => { results := [.lit (.bool true)], args := [d1, d2] }
  | _ => none }
def msgBackRow : OpenClaim := { program := "ytfolhmlldoepfaagreatdoor", sum := "1ca030982ac03786eff3a7662c160538e3886c5203a71d63af04783e06d32260", func := "annex/annexlaw4.MsgBack", spec := "msgBack", inPlace := ["internal/bytealg.IndexByteString", "internal/reflectlite.TypeOf", "internal/reflectlite.ValueOf", "(internal/reflectlite.Value).Type", "(internal/reflectlite.Value).IsNil", "(internal/reflectlite.Value).Elem", "(internal/reflectlite.Value).Set"], unfollowed := true, recurses := true, named := ["annex/msg.asked", "annex/bits.errTrouble", "errors.errorType"], apart := false, laid := [("errors.errorType", laid_errors_errorType), ("annex/bits.errTrouble", laid_annex_bits_errTrouble), ("annex/msg.asked", laid_annex_msg_asked)] }
def MsgBackSaid : Prop := msgBackRow.holds Tryz.pinned (OpenSpec.ofChange msgBackSpec)

/-- ITS FALSE NEIGHBOUR: 'it returns false'. Refute it at one input. -/
def msgBackWrong : ChangeSpec := { name := "msgBack", fn := fun _ => fun
  | [d1, d2] => { results := [.lit (.bool false)], args := [d1, d2] }
  | _ => none }
def MsgBackWrongFalsely : Prop := msgBackRow.holds Tryz.pinned (OpenSpec.ofChange msgBackWrong)

/-- 'annexlaw4.MsgOneForm': WHATEVER THE INPUT: true; the input reads as it did. -/
def msgOneFormSpec : ChangeSpec := { name := "msgOneForm", fn := fun _ => fun
  | [d] => { results := [.lit (.bool true)], args := [d] }
  | _ => none }
def msgOneFormRow : OpenClaim := { program := "ytfolhmlldoepfaagreatdoor", sum := "1ca030982ac03786eff3a7662c160538e3886c5203a71d63af04783e06d32260", func := "annex/annexlaw4.MsgOneForm", spec := "msgOneForm", inPlace := ["internal/bytealg.IndexByteString", "internal/reflectlite.TypeOf", "internal/reflectlite.ValueOf", "(internal/reflectlite.Value).Type", "(internal/reflectlite.Value).IsNil", "(internal/reflectlite.Value).Elem", "(internal/reflectlite.Value).Set"], unfollowed := true, recurses := true, named := ["annex/msg.asked", "annex/bits.errTrouble", "errors.errorType"], apart := false, laid := [("errors.errorType", laid_errors_errorType), ("annex/bits.errTrouble", laid_annex_bits_errTrouble), ("annex/msg.asked", laid_annex_msg_asked)] }
def MsgOneFormSaid : Prop := msgOneFormRow.holds Tryz.pinned (OpenSpec.ofChange msgOneFormSpec)

/-- ITS FALSE NEIGHBOUR: 'it returns false'. Refute it at one input. -/
def msgOneFormWrong : ChangeSpec := { name := "msgOneForm", fn := fun _ => fun
  | [d] => { results := [.lit (.bool false)], args := [d] }
  | _ => none }
def MsgOneFormWrongFalsely : Prop := msgOneFormRow.holds Tryz.pinned (OpenSpec.ofChange msgOneFormWrong)

/- THE SECOND FORM. 'bulk': how many values and letters a reading holds, each counted each time it is reached (what is shared counts as often as it is met; a slice's spare places count too). A statement '..UptoSaid' is the law's where the arguments, and the package variables that the reading takes, are together of bulk at most 1048576: NARROWER than '..Said'. Prove '..Said' where nothing that the law and all that it calls make is longer than what came in: it says more and counts as full. Else prove '..UptoSaid'. A law counts once. -/
mutual
def uptoBulk {H : Type} : DataW H → Nat
  | .lit (.string bytes) => bytes.length + 1
  | .lit _ => 1
  | .nil => 1
  | .ptr d => uptoBulk d + 1
  | .slice elems spare => uptoBulkAll elems + uptoBulkAll spare + 1
  | .agg parts => uptoBulkAll parts + 1
  | .iface _ d => uptoBulk d + 1
  | .map entries => uptoBulkEntries entries + 1
  | .held _ => 1
def uptoBulkAll {H : Type} : List (DataW H) → Nat
  | [] => 0
  | d :: r => uptoBulk d + uptoBulkAll r
def uptoBulkEntries {H : Type} : List (Lit × DataW H) → Nat
  | [] => 0
  | x :: r => uptoBulkEntry x + uptoBulkEntries r
def uptoBulkEntry {H : Type} : Lit × DataW H → Nat
  | (.string bytes, d) => bytes.length + uptoBulk d + 1
  | (_, d) => uptoBulk d + 1
 end
def uptoSmall : (H : Type) → List (DataW H) → Bool := fun _ ds => decide (uptoBulkAll ds ≤ 1048576)
def OpenSpec.upto (s : _root_.Go.ChangeSpec) : _root_.Go.OpenSpec := { _root_.Go.OpenSpec.ofChange s with cond := some uptoSmall }

/-- 'annexlaw4.MsgChecks', WHERE WHAT IT READS IS OF BULK AT MOST 1048576: true; the input reads as it did. -/
def msgChecksUptoRow : OpenClaim := { program := "ytfolhmlldoepfaagreatdoor", sum := "1ca030982ac03786eff3a7662c160538e3886c5203a71d63af04783e06d32260", func := "annex/annexlaw4.MsgChecks", spec := "msgChecks", inPlace := ["internal/bytealg.IndexByteString", "internal/reflectlite.TypeOf", "internal/reflectlite.ValueOf", "(internal/reflectlite.Value).Type", "(internal/reflectlite.Value).IsNil", "(internal/reflectlite.Value).Elem", "(internal/reflectlite.Value).Set"], unfollowed := true, recurses := true, named := ["annex/msg.asked", "annex/bits.errTrouble", "errors.errorType"], apart := false, laid := [("errors.errorType", laid_errors_errorType), ("annex/bits.errTrouble", laid_annex_bits_errTrouble), ("annex/msg.asked", laid_annex_msg_asked)], narrowed := true }
def MsgChecksUptoSaid : Prop := msgChecksUptoRow.holds Tryz.pinned (OpenSpec.upto msgChecksSpec)

/-- 'annexlaw4.MsgEncodes', WHERE WHAT IT READS IS OF BULK AT MOST 1048576: true; the input reads as it did. -/
def msgEncodesUptoRow : OpenClaim := { program := "ytfolhmlldoepfaagreatdoor", sum := "1ca030982ac03786eff3a7662c160538e3886c5203a71d63af04783e06d32260", func := "annex/annexlaw4.MsgEncodes", spec := "msgEncodes", inPlace := ["internal/bytealg.IndexByteString", "internal/reflectlite.TypeOf", "internal/reflectlite.ValueOf", "(internal/reflectlite.Value).Type", "(internal/reflectlite.Value).IsNil", "(internal/reflectlite.Value).Elem", "(internal/reflectlite.Value).Set"], unfollowed := true, recurses := true, named := ["annex/msg.asked", "annex/bits.errTrouble", "errors.errorType"], apart := false, laid := [("errors.errorType", laid_errors_errorType), ("annex/bits.errTrouble", laid_annex_bits_errTrouble), ("annex/msg.asked", laid_annex_msg_asked)], narrowed := true }
def MsgEncodesUptoSaid : Prop := msgEncodesUptoRow.holds Tryz.pinned (OpenSpec.upto msgEncodesSpec)

/-- 'annexlaw4.MsgOneByte', WHERE WHAT IT READS IS OF BULK AT MOST 1048576: true; the input reads as it did. -/
def msgOneByteUptoRow : OpenClaim := { program := "ytfolhmlldoepfaagreatdoor", sum := "1ca030982ac03786eff3a7662c160538e3886c5203a71d63af04783e06d32260", func := "annex/annexlaw4.MsgOneByte", spec := "msgOneByte", inPlace := ["internal/bytealg.IndexByteString", "internal/reflectlite.TypeOf", "internal/reflectlite.ValueOf", "(internal/reflectlite.Value).Type", "(internal/reflectlite.Value).IsNil", "(internal/reflectlite.Value).Elem", "(internal/reflectlite.Value).Set"], unfollowed := true, recurses := true, named := ["annex/msg.asked", "annex/bits.errTrouble", "errors.errorType"], apart := false, laid := [("errors.errorType", laid_errors_errorType), ("annex/bits.errTrouble", laid_annex_bits_errTrouble), ("annex/msg.asked", laid_annex_msg_asked)], narrowed := true }
def MsgOneByteUptoSaid : Prop := msgOneByteUptoRow.holds Tryz.pinned (OpenSpec.upto msgOneByteSpec)

/-- 'annexlaw4.MsgSums', WHERE WHAT IT READS IS OF BULK AT MOST 1048576: true; the input reads as it did. -/
def msgSumsUptoRow : OpenClaim := { program := "ytfolhmlldoepfaagreatdoor", sum := "1ca030982ac03786eff3a7662c160538e3886c5203a71d63af04783e06d32260", func := "annex/annexlaw4.MsgSums", spec := "msgSums", inPlace := ["internal/bytealg.IndexByteString", "internal/reflectlite.TypeOf", "internal/reflectlite.ValueOf", "(internal/reflectlite.Value).Type", "(internal/reflectlite.Value).IsNil", "(internal/reflectlite.Value).Elem", "(internal/reflectlite.Value).Set"], unfollowed := true, recurses := true, named := ["annex/msg.asked", "annex/bits.errTrouble", "errors.errorType"], apart := false, laid := [("errors.errorType", laid_errors_errorType), ("annex/bits.errTrouble", laid_annex_bits_errTrouble), ("annex/msg.asked", laid_annex_msg_asked)], narrowed := true }
def MsgSumsUptoSaid : Prop := msgSumsUptoRow.holds Tryz.pinned (OpenSpec.upto msgSumsSpec)

/-- 'annexlaw4.MsgUnlike', WHERE WHAT IT READS IS OF BULK AT MOST 1048576: true; the input reads as it did. -/
def msgUnlikeUptoRow : OpenClaim := { program := "ytfolhmlldoepfaagreatdoor", sum := "1ca030982ac03786eff3a7662c160538e3886c5203a71d63af04783e06d32260", func := "annex/annexlaw4.MsgUnlike", spec := "msgUnlike", inPlace := ["internal/bytealg.IndexByteString", "internal/reflectlite.TypeOf", "internal/reflectlite.ValueOf", "(internal/reflectlite.Value).Type", "(internal/reflectlite.Value).IsNil", "(internal/reflectlite.Value).Elem", "(internal/reflectlite.Value).Set"], unfollowed := true, recurses := true, named := ["annex/msg.asked", "annex/bits.errTrouble", "errors.errorType"], apart := false, laid := [("errors.errorType", laid_errors_errorType), ("annex/bits.errTrouble", laid_annex_bits_errTrouble), ("annex/msg.asked", laid_annex_msg_asked)], narrowed := true }
def MsgUnlikeUptoSaid : Prop := msgUnlikeUptoRow.holds Tryz.pinned (OpenSpec.upto msgUnlikeSpec)

/-- 'annexlaw4.MsgOwn', WHERE WHAT IT READS IS OF BULK AT MOST 1048576: true; the input reads as it did. -/
def msgOwnUptoRow : OpenClaim := { program := "ytfolhmlldoepfaagreatdoor", sum := "1ca030982ac03786eff3a7662c160538e3886c5203a71d63af04783e06d32260", func := "annex/annexlaw4.MsgOwn", spec := "msgOwn", inPlace := ["internal/bytealg.IndexByteString", "internal/reflectlite.TypeOf", "internal/reflectlite.ValueOf", "(internal/reflectlite.Value).Type", "(internal/reflectlite.Value).IsNil", "(internal/reflectlite.Value).Elem", "(internal/reflectlite.Value).Set"], unfollowed := true, recurses := true, named := ["annex/msg.asked", "annex/bits.errTrouble", "errors.errorType"], apart := false, laid := [("errors.errorType", laid_errors_errorType), ("annex/bits.errTrouble", laid_annex_bits_errTrouble), ("annex/msg.asked", laid_annex_msg_asked)], narrowed := true }
def MsgOwnUptoSaid : Prop := msgOwnUptoRow.holds Tryz.pinned (OpenSpec.upto msgOwnSpec)

/-- 'annexlaw4.MsgDecodes', WHERE WHAT IT READS IS OF BULK AT MOST 1048576: true; the input reads as it did. -/
def msgDecodesUptoRow : OpenClaim := { program := "ytfolhmlldoepfaagreatdoor", sum := "1ca030982ac03786eff3a7662c160538e3886c5203a71d63af04783e06d32260", func := "annex/annexlaw4.MsgDecodes", spec := "msgDecodes", inPlace := ["internal/bytealg.IndexByteString", "internal/reflectlite.TypeOf", "internal/reflectlite.ValueOf", "(internal/reflectlite.Value).Type", "(internal/reflectlite.Value).IsNil", "(internal/reflectlite.Value).Elem", "(internal/reflectlite.Value).Set"], unfollowed := true, recurses := true, named := ["annex/msg.asked", "annex/bits.errTrouble", "errors.errorType"], apart := false, laid := [("errors.errorType", laid_errors_errorType), ("annex/bits.errTrouble", laid_annex_bits_errTrouble), ("annex/msg.asked", laid_annex_msg_asked)], narrowed := true }
def MsgDecodesUptoSaid : Prop := msgDecodesUptoRow.holds Tryz.pinned (OpenSpec.upto msgDecodesSpec)

/-- 'annexlaw4.MsgBack', WHERE WHAT IT READS IS OF BULK AT MOST 1048576: true; the input reads as it did. -/
def msgBackUptoRow : OpenClaim := { program := "ytfolhmlldoepfaagreatdoor", sum := "1ca030982ac03786eff3a7662c160538e3886c5203a71d63af04783e06d32260", func := "annex/annexlaw4.MsgBack", spec := "msgBack", inPlace := ["internal/bytealg.IndexByteString", "internal/reflectlite.TypeOf", "internal/reflectlite.ValueOf", "(internal/reflectlite.Value).Type", "(internal/reflectlite.Value).IsNil", "(internal/reflectlite.Value).Elem", "(internal/reflectlite.Value).Set"], unfollowed := true, recurses := true, named := ["annex/msg.asked", "annex/bits.errTrouble", "errors.errorType"], apart := false, laid := [("errors.errorType", laid_errors_errorType), ("annex/bits.errTrouble", laid_annex_bits_errTrouble), ("annex/msg.asked", laid_annex_msg_asked)], narrowed := true }
def MsgBackUptoSaid : Prop := msgBackUptoRow.holds Tryz.pinned (OpenSpec.upto msgBackSpec)

/-- 'annexlaw4.MsgOneForm', WHERE WHAT IT READS IS OF BULK AT MOST 1048576: true; the input reads as it did. -/
def msgOneFormUptoRow : OpenClaim := { program := "ytfolhmlldoepfaagreatdoor", sum := "1ca030982ac03786eff3a7662c160538e3886c5203a71d63af04783e06d32260", func := "annex/annexlaw4.MsgOneForm", spec := "msgOneForm", inPlace := ["internal/bytealg.IndexByteString", "internal/reflectlite.TypeOf", "internal/reflectlite.ValueOf", "(internal/reflectlite.Value).Type", "(internal/reflectlite.Value).IsNil", "(internal/reflectlite.Value).Elem", "(internal/reflectlite.Value).Set"], unfollowed := true, recurses := true, named := ["annex/msg.asked", "annex/bits.errTrouble", "errors.errorType"], apart := false, laid := [("errors.errorType", laid_errors_errorType), ("annex/bits.errTrouble", laid_annex_bits_errTrouble), ("annex/msg.asked", laid_annex_msg_asked)], narrowed := true }
def MsgOneFormUptoSaid : Prop := msgOneFormUptoRow.holds Tryz.pinned (OpenSpec.upto msgOneFormSpec)

end Rows
end Go.Proofs.YtfolhmlldoepfaaGreatDoor
