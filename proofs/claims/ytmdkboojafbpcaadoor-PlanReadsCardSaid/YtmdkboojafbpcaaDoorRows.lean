/-
  NARROWER THAN 'FOR EVERY INPUT', by the rows' own cells (each row's printed sentence says how): PlanPlans: laid · PlanSupers: laid · PlanReads: laid · PlanWheres: laid · PlanReturns: laid · PlanOneForm: laid · PlanRots: laid · PlanCovers: laid · PlanRoom: laid · PlanNewMemory: laid.
  DERIVED. THE GIVEN ROWS OF THIS SEAT. 10 by the template 'for every input the law returns true; each argument reads behind the call as it read before'; 0 by the template 'total and deterministic' (their statements: YtmdkboojafbpcaaDoorTotals.lean).
  GIVEN WITH THE SEED: the statements are not yours to turn. If you find one false, say at which input.
  Laid BY PROGRAM, IN A SANDBOX (cutbox-rows.mjs): the forced cells as the released guide's own fill.sh prints them over the translation da14ddeb89e46bdd… (all of the seat's roots in one cut). By AI agents, Wed Nov 11 2026. No macro, syntax, notation, axiom, sorry.
-/
import Derived.Test.YtmdkboojafbpcaaDoorChecked
import GoSem.Claim
import GoSem.ClaimJoined
import GoSem.ClaimMapViews
import Derived.JoinedTies
import Derived.KernelRfl
namespace Go.Proofs.YtmdkboojafbpcaaDoor
/- THE CELL 'sum', in the pinned program and in every row, IS THE sha256 OF THE DUMP (.gsa) THAT YtmdkboojafbpcaaDoorProg.lean LOADS. Nothing in Lean hashes anything: it is a label: what it is worth is what the hold of that sum in a sandbox is worth. -/
noncomputable def Tryd.pinned : Pinned := { name := "ytmdkboojafbpcaadoor", sum := "da14ddeb89e46bdd299a02ebd81d00884d4b7d86f2692c98c678fed00d65ae1c", checked := Tryd.checked }
namespace Rows
def none {H : Type} : Left H := { results := [], args := [] }

/- WHAT THE LISTED PACKAGE-LEVEL VARIABLES READ AS WHEN THE CALL BEGINS. Each datum BY PROGRAM (the guide's laid-datum.mjs) off the statement by which the dump's own 'gosem.cut.vars' lays the variable. In a bare row this is a premise. The card (YtmdkboojafbpcaaDoorCards.lean) ties it to the program's text. -/
def laid_errors_errorType {H : Type} : DataW H := .iface "internal/reflectlite.rtype" (.agg [.ptr (.lit (.string [101, 114, 114, 111, 114]))])
def laid_annex_bits_errTrouble {H : Type} : DataW H := .iface "*errors.errorString" (.ptr (.agg [.lit (.string [98, 105, 116, 115, 58, 32, 110, 111, 32, 115, 117, 99, 104, 32, 102, 105, 101, 108, 100])]))
def laid_annex_plan_bounds {H : Type} : DataW H := .agg [.agg [.lit (.int .i64 1), .lit (.int .i64 8)], .agg [.lit (.int .i64 1), .lit (.int .i64 8)], .agg [.lit (.int .i64 1), .lit (.int .i64 8)], .agg [.lit (.int .i64 1), .lit (.int .i64 64)], .agg [.lit (.int .i64 2), .lit (.int .i64 256)], .agg [.lit (.int .i64 0), .lit (.int .i64 524288)], .agg [.lit (.int .i64 1), .lit (.int .i64 4096)], .agg [.lit (.int .i64 27), .lit (.int .i64 512)]]

/-- 'annexlaw6.PlanPlans': WHATEVER THE INPUT: true; the input reads as it did. -/
def planPlansSpec : ChangeSpec := { name := "planPlans", fn := fun _ => fun
  | [d] => { results := [.lit (.bool true)], args := [d] }
  | _ => none }
def planPlansRow : OpenClaim := { program := "ytmdkboojafbpcaadoor", sum := "da14ddeb89e46bdd299a02ebd81d00884d4b7d86f2692c98c678fed00d65ae1c", func := "annex/annexlaw6.PlanPlans", spec := "planPlans", inPlace := ["internal/reflectlite.TypeOf", "internal/reflectlite.ValueOf", "(internal/reflectlite.Value).Type", "(internal/reflectlite.Value).IsNil", "(internal/reflectlite.Value).Elem", "(internal/reflectlite.Value).Set"], unfollowed := true, recurses := true, named := ["annex/plan.bounds", "annex/bits.errTrouble", "errors.errorType"], apart := false, laid := [("errors.errorType", laid_errors_errorType), ("annex/bits.errTrouble", laid_annex_bits_errTrouble), ("annex/plan.bounds", laid_annex_plan_bounds)] }
def PlanPlansSaid : Prop := planPlansRow.holds Tryd.pinned (OpenSpec.ofChange planPlansSpec)

/-- ITS FALSE NEIGHBOUR: 'it returns false'. Refute it at one input. -/
def planPlansWrong : ChangeSpec := { name := "planPlans", fn := fun _ => fun
  | [d] => { results := [.lit (.bool false)], args := [d] }
  | _ => none }
def PlanPlansWrongFalsely : Prop := planPlansRow.holds Tryd.pinned (OpenSpec.ofChange planPlansWrong)

/-- 'annexlaw6.PlanSupers': WHATEVER THE INPUT: true; the input reads as it did. -/
def planSupersSpec : ChangeSpec := { name := "planSupers", fn := fun _ => fun
  | [d] => { results := [.lit (.bool true)], args := [d] }
  | _ => none }
def planSupersRow : OpenClaim := { program := "ytmdkboojafbpcaadoor", sum := "da14ddeb89e46bdd299a02ebd81d00884d4b7d86f2692c98c678fed00d65ae1c", func := "annex/annexlaw6.PlanSupers", spec := "planSupers", inPlace := ["internal/reflectlite.TypeOf", "internal/reflectlite.ValueOf", "(internal/reflectlite.Value).Type", "(internal/reflectlite.Value).IsNil", "(internal/reflectlite.Value).Elem", "(internal/reflectlite.Value).Set"], unfollowed := true, recurses := true, named := ["annex/plan.bounds", "annex/bits.errTrouble", "errors.errorType"], apart := false, laid := [("errors.errorType", laid_errors_errorType), ("annex/bits.errTrouble", laid_annex_bits_errTrouble), ("annex/plan.bounds", laid_annex_plan_bounds)] }
def PlanSupersSaid : Prop := planSupersRow.holds Tryd.pinned (OpenSpec.ofChange planSupersSpec)

/-- ITS FALSE NEIGHBOUR: 'it returns false'. Refute it at one input. -/
def planSupersWrong : ChangeSpec := { name := "planSupers", fn := fun _ => fun
  | [d] => { results := [.lit (.bool false)], args := [d] }
  | _ => none }
def PlanSupersWrongFalsely : Prop := planSupersRow.holds Tryd.pinned (OpenSpec.ofChange planSupersWrong)

/-- 'annexlaw6.PlanReads': WHATEVER THE INPUT: true; the input reads as it did. -/
def planReadsSpec : ChangeSpec := { name := "planReads", fn := fun _ => fun
  | [d] => { results := [.lit (.bool true)], args := [d] }
  | _ => none }
def planReadsRow : OpenClaim := { program := "ytmdkboojafbpcaadoor", sum := "da14ddeb89e46bdd299a02ebd81d00884d4b7d86f2692c98c678fed00d65ae1c", func := "annex/annexlaw6.PlanReads", spec := "planReads", inPlace := ["internal/reflectlite.TypeOf", "internal/reflectlite.ValueOf", "(internal/reflectlite.Value).Type", "(internal/reflectlite.Value).IsNil", "(internal/reflectlite.Value).Elem", "(internal/reflectlite.Value).Set"], unfollowed := true, recurses := true, named := ["annex/plan.bounds", "annex/bits.errTrouble", "errors.errorType"], apart := false, laid := [("errors.errorType", laid_errors_errorType), ("annex/bits.errTrouble", laid_annex_bits_errTrouble), ("annex/plan.bounds", laid_annex_plan_bounds)] }
def PlanReadsSaid : Prop := planReadsRow.holds Tryd.pinned (OpenSpec.ofChange planReadsSpec)

/-- ITS FALSE NEIGHBOUR: 'it returns false'. Refute it at one input. -/
def planReadsWrong : ChangeSpec := { name := "planReads", fn := fun _ => fun
  | [d] => { results := [.lit (.bool false)], args := [d] }
  | _ => none }
def PlanReadsWrongFalsely : Prop := planReadsRow.holds Tryd.pinned (OpenSpec.ofChange planReadsWrong)

/-- 'annexlaw6.PlanWheres': WHATEVER THE INPUT: true; the input reads as it did. -/
def planWheresSpec : ChangeSpec := { name := "planWheres", fn := fun _ => fun
  | [d1, d2] => { results := [.lit (.bool true)], args := [d1, d2] }
  | _ => none }
def planWheresRow : OpenClaim := { program := "ytmdkboojafbpcaadoor", sum := "da14ddeb89e46bdd299a02ebd81d00884d4b7d86f2692c98c678fed00d65ae1c", func := "annex/annexlaw6.PlanWheres", spec := "planWheres", inPlace := ["internal/reflectlite.TypeOf", "internal/reflectlite.ValueOf", "(internal/reflectlite.Value).Type", "(internal/reflectlite.Value).IsNil", "(internal/reflectlite.Value).Elem", "(internal/reflectlite.Value).Set"], unfollowed := true, recurses := true, named := ["annex/plan.bounds", "annex/bits.errTrouble", "errors.errorType"], apart := false, laid := [("errors.errorType", laid_errors_errorType), ("annex/bits.errTrouble", laid_annex_bits_errTrouble), ("annex/plan.bounds", laid_annex_plan_bounds)] }
def PlanWheresSaid : Prop := planWheresRow.holds Tryd.pinned (OpenSpec.ofChange planWheresSpec)

/-- ITS FALSE NEIGHBOUR: 'it returns false'. Refute it at one input. -/
def planWheresWrong : ChangeSpec := { name := "planWheres", fn := fun _ => fun
  | [d1, d2] => { results := [.lit (.bool false)], args := [d1, d2] }
  | _ => none }
def PlanWheresWrongFalsely : Prop := planWheresRow.holds Tryd.pinned (OpenSpec.ofChange planWheresWrong)

/-- 'annexlaw6.PlanReturns': WHATEVER THE INPUT: true; the input reads as it did. -/
def planReturnsSpec : ChangeSpec := { name := "planReturns", fn := fun _ => fun
  | [d] => { results := [.lit (.bool true)], args := [d] }
  | _ => none }
def planReturnsRow : OpenClaim := { program := "ytmdkboojafbpcaadoor", sum := "da14ddeb89e46bdd299a02ebd81d00884d4b7d86f2692c98c678fed00d65ae1c", func := "annex/annexlaw6.PlanReturns", spec := "planReturns", inPlace := ["internal/reflectlite.TypeOf", "internal/reflectlite.ValueOf", "(internal/reflectlite.Value).Type", "(internal/reflectlite.Value).IsNil", "(internal/reflectlite.Value).Elem", "(internal/reflectlite.Value).Set"], unfollowed := true, recurses := true, named := ["annex/plan.bounds", "annex/bits.errTrouble", "errors.errorType"], apart := false, laid := [("errors.errorType", laid_errors_errorType), ("annex/bits.errTrouble", laid_annex_bits_errTrouble), ("annex/plan.bounds", laid_annex_plan_bounds)] }
def PlanReturnsSaid : Prop := planReturnsRow.holds Tryd.pinned (OpenSpec.ofChange planReturnsSpec)

/-- ITS FALSE NEIGHBOUR: 'it returns false'. Refute it at one input. -/
def planReturnsWrong : ChangeSpec := { name := "planReturns", fn := fun _ => fun
  | [d] => { results := [.lit (.bool false)], args := [d] }
  | _ => none }
def PlanReturnsWrongFalsely : Prop := planReturnsRow.holds Tryd.pinned (OpenSpec.ofChange planReturnsWrong)

/-- 'annexlaw6.PlanOneForm': WHATEVER THE INPUT: true; the input reads as it did. -/
def planOneFormSpec : ChangeSpec := { name := "planOneForm", fn := fun _ => fun
  | [d] => { results := [.lit (.bool true)], args := [d] }
  | _ => none }
def planOneFormRow : OpenClaim := { program := "ytmdkboojafbpcaadoor", sum := "da14ddeb89e46bdd299a02ebd81d00884d4b7d86f2692c98c678fed00d65ae1c", func := "annex/annexlaw6.PlanOneForm", spec := "planOneForm", inPlace := ["internal/reflectlite.TypeOf", "internal/reflectlite.ValueOf", "(internal/reflectlite.Value).Type", "(internal/reflectlite.Value).IsNil", "(internal/reflectlite.Value).Elem", "(internal/reflectlite.Value).Set"], unfollowed := true, recurses := true, named := ["annex/plan.bounds", "annex/bits.errTrouble", "errors.errorType"], apart := false, laid := [("errors.errorType", laid_errors_errorType), ("annex/bits.errTrouble", laid_annex_bits_errTrouble), ("annex/plan.bounds", laid_annex_plan_bounds)] }
def PlanOneFormSaid : Prop := planOneFormRow.holds Tryd.pinned (OpenSpec.ofChange planOneFormSpec)

/-- ITS FALSE NEIGHBOUR: 'it returns false'. Refute it at one input. -/
def planOneFormWrong : ChangeSpec := { name := "planOneForm", fn := fun _ => fun
  | [d] => { results := [.lit (.bool false)], args := [d] }
  | _ => none }
def PlanOneFormWrongFalsely : Prop := planOneFormRow.holds Tryd.pinned (OpenSpec.ofChange planOneFormWrong)

/-- 'annexlaw6.PlanRots': WHATEVER THE INPUT: true; the input reads as it did. -/
def planRotsSpec : ChangeSpec := { name := "planRots", fn := fun _ => fun
  | [d1, d2, d3] => { results := [.lit (.bool true)], args := [d1, d2, d3] }
  | _ => none }
def planRotsRow : OpenClaim := { program := "ytmdkboojafbpcaadoor", sum := "da14ddeb89e46bdd299a02ebd81d00884d4b7d86f2692c98c678fed00d65ae1c", func := "annex/annexlaw6.PlanRots", spec := "planRots", inPlace := ["internal/reflectlite.TypeOf", "internal/reflectlite.ValueOf", "(internal/reflectlite.Value).Type", "(internal/reflectlite.Value).IsNil", "(internal/reflectlite.Value).Elem", "(internal/reflectlite.Value).Set"], unfollowed := true, recurses := true, named := ["annex/plan.bounds", "annex/bits.errTrouble", "errors.errorType"], apart := false, laid := [("errors.errorType", laid_errors_errorType), ("annex/bits.errTrouble", laid_annex_bits_errTrouble), ("annex/plan.bounds", laid_annex_plan_bounds)] }
def PlanRotsSaid : Prop := planRotsRow.holds Tryd.pinned (OpenSpec.ofChange planRotsSpec)

/-- ITS FALSE NEIGHBOUR: 'it returns false'. Refute it at one input. -/
def planRotsWrong : ChangeSpec := { name := "planRots", fn := fun _ => fun
  | [d1, d2, d3] => { results := [.lit (.bool false)], args := [d1, d2, d3] }
  | _ => none }
def PlanRotsWrongFalsely : Prop := planRotsRow.holds Tryd.pinned (OpenSpec.ofChange planRotsWrong)

/-- 'annexlaw6.PlanCovers': WHATEVER THE INPUT: true; the input reads as it did. -/
def planCoversSpec : ChangeSpec := { name := "planCovers", fn := fun _ => fun
  | [d] => { results := [.lit (.bool true)], args := [d] }
  | _ => none }
def planCoversRow : OpenClaim := { program := "ytmdkboojafbpcaadoor", sum := "da14ddeb89e46bdd299a02ebd81d00884d4b7d86f2692c98c678fed00d65ae1c", func := "annex/annexlaw6.PlanCovers", spec := "planCovers", inPlace := ["internal/reflectlite.TypeOf", "internal/reflectlite.ValueOf", "(internal/reflectlite.Value).Type", "(internal/reflectlite.Value).IsNil", "(internal/reflectlite.Value).Elem", "(internal/reflectlite.Value).Set"], unfollowed := true, recurses := true, named := ["annex/plan.bounds", "annex/bits.errTrouble", "errors.errorType"], apart := false, laid := [("errors.errorType", laid_errors_errorType), ("annex/bits.errTrouble", laid_annex_bits_errTrouble), ("annex/plan.bounds", laid_annex_plan_bounds)] }
def PlanCoversSaid : Prop := planCoversRow.holds Tryd.pinned (OpenSpec.ofChange planCoversSpec)

/-- ITS FALSE NEIGHBOUR: 'it returns false'. Refute it at one input. -/
def planCoversWrong : ChangeSpec := { name := "planCovers", fn := fun _ => fun
  | [d] => { results := [.lit (.bool false)], args := [d] }
  | _ => none }
def PlanCoversWrongFalsely : Prop := planCoversRow.holds Tryd.pinned (OpenSpec.ofChange planCoversWrong)

/-- 'annexlaw6.PlanRoom': WHATEVER THE INPUT: true; the input reads as it did. -/
def planRoomSpec : ChangeSpec := { name := "planRoom", fn := fun _ => fun
  | [d] => { results := [.lit (.bool true)], args := [d] }
  | _ => none }
def planRoomRow : OpenClaim := { program := "ytmdkboojafbpcaadoor", sum := "da14ddeb89e46bdd299a02ebd81d00884d4b7d86f2692c98c678fed00d65ae1c", func := "annex/annexlaw6.PlanRoom", spec := "planRoom", inPlace := ["internal/reflectlite.TypeOf", "internal/reflectlite.ValueOf", "(internal/reflectlite.Value).Type", "(internal/reflectlite.Value).IsNil", "(internal/reflectlite.Value).Elem", "(internal/reflectlite.Value).Set"], unfollowed := true, recurses := true, named := ["annex/plan.bounds", "annex/bits.errTrouble", "errors.errorType"], apart := false, laid := [("errors.errorType", laid_errors_errorType), ("annex/bits.errTrouble", laid_annex_bits_errTrouble), ("annex/plan.bounds", laid_annex_plan_bounds)] }
def PlanRoomSaid : Prop := planRoomRow.holds Tryd.pinned (OpenSpec.ofChange planRoomSpec)

/-- ITS FALSE NEIGHBOUR: 'it returns false'. Refute it at one input. -/
def planRoomWrong : ChangeSpec := { name := "planRoom", fn := fun _ => fun
  | [d] => { results := [.lit (.bool false)], args := [d] }
  | _ => none }
def PlanRoomWrongFalsely : Prop := planRoomRow.holds Tryd.pinned (OpenSpec.ofChange planRoomWrong)

/-- 'annexlaw6.PlanNewMemory': WHATEVER THE INPUT: true; the input reads as it did. -/
def planNewMemorySpec : ChangeSpec := { name := "planNewMemory", fn := fun _ => fun
  | [d] => { results := [.lit (.bool true)], args := [d] }
  | _ => none }
def planNewMemoryRow : OpenClaim := { program := "ytmdkboojafbpcaadoor", sum := "da14ddeb89e46bdd299a02ebd81d00884d4b7d86f2692c98c678fed00d65ae1c", func := "annex/annexlaw6.PlanNewMemory", spec := "planNewMemory", inPlace := ["internal/reflectlite.TypeOf", "internal/reflectlite.ValueOf", "(internal/reflectlite.Value).Type", "(internal/reflectlite.Value).IsNil", "(internal/reflectlite.Value).Elem", "(internal/reflectlite.Value).Set"], unfollowed := true, recurses := true, named := ["annex/plan.bounds", "annex/bits.errTrouble", "errors.errorType"], apart := false, laid := [("errors.errorType", laid_errors_errorType), ("annex/bits.errTrouble", laid_annex_bits_errTrouble), ("annex/plan.bounds", laid_annex_plan_bounds)] }
def PlanNewMemorySaid : Prop := planNewMemoryRow.holds Tryd.pinned (OpenSpec.ofChange planNewMemorySpec)

/-- ITS FALSE NEIGHBOUR: 'it returns false'. Refute it at one input. -/
def planNewMemoryWrong : ChangeSpec := { name := "planNewMemory", fn := fun _ => fun
  | [d] => { results := [.lit (.bool false)], args := [d] }
  | _ => none }
def PlanNewMemoryWrongFalsely : Prop := planNewMemoryRow.holds Tryd.pinned (OpenSpec.ofChange planNewMemoryWrong)

/- THE SECOND FORM. 'bulk': how many values and letters a reading holds, each counted each time it is reached (what is shared counts as often as it is met; a slice's spare places count too). A statement '..UptoSaid' is the law's where the arguments, and the package variables that the reading takes, are together of bulk at most 1048576: NARROWER than '..Said'. Prove '..Said' where nothing that the law and all that it calls make is longer than what came in: it says more and counts as full. Else prove '..UptoSaid'. A law counts once. -/
mutual
def uptoBulk {H : Type} : DataW H → Nat
  | .lit (.string bytes) => bytes.length + 1
  | .lit _ => 1
  | .nil => 1
  | .ptr d => uptoBulk d + 1
  | .slice elems spare => uptoBulkAll elems + uptoBulkAll spare + 1
  | .agg parts => uptoBulkAll parts + 1
  | .iface _ d => uptoBulk d + 1
  | .map entries => uptoBulkEntries entries + 1
  | .held _ => 1
def uptoBulkAll {H : Type} : List (DataW H) → Nat
  | [] => 0
  | d :: r => uptoBulk d + uptoBulkAll r
def uptoBulkEntries {H : Type} : List (Lit × DataW H) → Nat
  | [] => 0
  | x :: r => uptoBulkEntry x + uptoBulkEntries r
def uptoBulkEntry {H : Type} : Lit × DataW H → Nat
  | (.string bytes, d) => bytes.length + uptoBulk d + 1
  | (_, d) => uptoBulk d + 1
 end
def uptoSmall : (H : Type) → List (DataW H) → Bool := fun _ ds => decide (uptoBulkAll ds ≤ 1048576)
def OpenSpec.upto (s : _root_.Go.ChangeSpec) : _root_.Go.OpenSpec := { _root_.Go.OpenSpec.ofChange s with cond := some uptoSmall }

/-- 'annexlaw6.PlanPlans', WHERE WHAT IT READS IS OF BULK AT MOST 1048576: true; the input reads as it did. -/
def planPlansUptoRow : OpenClaim := { program := "ytmdkboojafbpcaadoor", sum := "da14ddeb89e46bdd299a02ebd81d00884d4b7d86f2692c98c678fed00d65ae1c", func := "annex/annexlaw6.PlanPlans", spec := "planPlans", inPlace := ["internal/reflectlite.TypeOf", "internal/reflectlite.ValueOf", "(internal/reflectlite.Value).Type", "(internal/reflectlite.Value).IsNil", "(internal/reflectlite.Value).Elem", "(internal/reflectlite.Value).Set"], unfollowed := true, recurses := true, named := ["annex/plan.bounds", "annex/bits.errTrouble", "errors.errorType"], apart := false, laid := [("errors.errorType", laid_errors_errorType), ("annex/bits.errTrouble", laid_annex_bits_errTrouble), ("annex/plan.bounds", laid_annex_plan_bounds)], narrowed := true }
def PlanPlansUptoSaid : Prop := planPlansUptoRow.holds Tryd.pinned (OpenSpec.upto planPlansSpec)

/-- 'annexlaw6.PlanSupers', WHERE WHAT IT READS IS OF BULK AT MOST 1048576: true; the input reads as it did. -/
def planSupersUptoRow : OpenClaim := { program := "ytmdkboojafbpcaadoor", sum := "da14ddeb89e46bdd299a02ebd81d00884d4b7d86f2692c98c678fed00d65ae1c", func := "annex/annexlaw6.PlanSupers", spec := "planSupers", inPlace := ["internal/reflectlite.TypeOf", "internal/reflectlite.ValueOf", "(internal/reflectlite.Value).Type", "(internal/reflectlite.Value).IsNil", "(internal/reflectlite.Value).Elem", "(internal/reflectlite.Value).Set"], unfollowed := true, recurses := true, named := ["annex/plan.bounds", "annex/bits.errTrouble", "errors.errorType"], apart := false, laid := [("errors.errorType", laid_errors_errorType), ("annex/bits.errTrouble", laid_annex_bits_errTrouble), ("annex/plan.bounds", laid_annex_plan_bounds)], narrowed := true }
def PlanSupersUptoSaid : Prop := planSupersUptoRow.holds Tryd.pinned (OpenSpec.upto planSupersSpec)

/-- 'annexlaw6.PlanReads', WHERE WHAT IT READS IS OF BULK AT MOST 1048576: true; the input reads as it did. -/
def planReadsUptoRow : OpenClaim := { program := "ytmdkboojafbpcaadoor", sum := "da14ddeb89e46bdd299a02ebd81d00884d4b7d86f2692c98c678fed00d65ae1c", func := "annex/annexlaw6.PlanReads", spec := "planReads", inPlace := ["internal/reflectlite.TypeOf", "internal/reflectlite.ValueOf", "(internal/reflectlite.Value).Type", "(internal/reflectlite.Value).IsNil", "(internal/reflectlite.Value).Elem", "(internal/reflectlite.Value).Set"], unfollowed := true, recurses := true, named := ["annex/plan.bounds", "annex/bits.errTrouble", "errors.errorType"], apart := false, laid := [("errors.errorType", laid_errors_errorType), ("annex/bits.errTrouble", laid_annex_bits_errTrouble), ("annex/plan.bounds", laid_annex_plan_bounds)], narrowed := true }
def PlanReadsUptoSaid : Prop := planReadsUptoRow.holds Tryd.pinned (OpenSpec.upto planReadsSpec)

/-- 'annexlaw6.PlanWheres', WHERE WHAT IT READS IS OF BULK AT MOST 1048576: true; the input reads as it did. -/
def planWheresUptoRow : OpenClaim := { program := "ytmdkboojafbpcaadoor", sum := "da14ddeb89e46bdd299a02ebd81d00884d4b7d86f2692c98c678fed00d65ae1c", func := "annex/annexlaw6.PlanWheres", spec := "planWheres", inPlace := ["internal/reflectlite.TypeOf", "internal/reflectlite.ValueOf", "(internal/reflectlite.Value).Type", "(internal/reflectlite.Value).IsNil", "(internal/reflectlite.Value).Elem", "(internal/reflectlite.Value).Set"], unfollowed := true, recurses := true, named := ["annex/plan.bounds", "annex/bits.errTrouble", "errors.errorType"], apart := false, laid := [("errors.errorType", laid_errors_errorType), ("annex/bits.errTrouble", laid_annex_bits_errTrouble), ("annex/plan.bounds", laid_annex_plan_bounds)], narrowed := true }
def PlanWheresUptoSaid : Prop := planWheresUptoRow.holds Tryd.pinned (OpenSpec.upto planWheresSpec)

/-- 'annexlaw6.PlanReturns', WHERE WHAT IT READS IS OF BULK AT MOST 1048576: true; the input reads as it did. -/
def planReturnsUptoRow : OpenClaim := { program := "ytmdkboojafbpcaadoor", sum := "da14ddeb89e46bdd299a02ebd81d00884d4b7d86f2692c98c678fed00d65ae1c", func := "annex/annexlaw6.PlanReturns", spec := "planReturns", inPlace := ["internal/reflectlite.TypeOf", "internal/reflectlite.ValueOf", "(internal/reflectlite.Value).Type", "(internal/reflectlite.Value).IsNil", "(internal/reflectlite.Value).Elem", "(internal/reflectlite.Value).Set"], unfollowed := true, recurses := true, named := ["annex/plan.bounds", "annex/bits.errTrouble", "errors.errorType"], apart := false, laid := [("errors.errorType", laid_errors_errorType), ("annex/bits.errTrouble", laid_annex_bits_errTrouble), ("annex/plan.bounds", laid_annex_plan_bounds)], narrowed := true }
def PlanReturnsUptoSaid : Prop := planReturnsUptoRow.holds Tryd.pinned (OpenSpec.upto planReturnsSpec)

/-- 'annexlaw6.PlanOneForm', WHERE WHAT IT READS IS OF BULK AT MOST 1048576: true; the input reads as it did. -/
def planOneFormUptoRow : OpenClaim := { program := "ytmdkboojafbpcaadoor", sum := "da14ddeb89e46bdd299a02ebd81d00884d4b7d86f2692c98c678fed00d65ae1c", func := "annex/annexlaw6.PlanOneForm", spec := "planOneForm", inPlace := ["internal/reflectlite.TypeOf", "internal/reflectlite.ValueOf", "(internal/reflectlite.Value).Type", "(internal/reflectlite.Value).IsNil", "(internal/reflectlite.Value).Elem", "(internal/reflectlite.Value).Set"], unfollowed := true, recurses := true, named := ["annex/plan.bounds", "annex/bits.errTrouble", "errors.errorType"], apart := false, laid := [("errors.errorType", laid_errors_errorType), ("annex/bits.errTrouble", laid_annex_bits_errTrouble), ("annex/plan.bounds", laid_annex_plan_bounds)], narrowed := true }
def PlanOneFormUptoSaid : Prop := planOneFormUptoRow.holds Tryd.pinned (OpenSpec.upto planOneFormSpec)

/-- 'annexlaw6.PlanRots', WHERE WHAT IT READS IS OF BULK AT MOST 1048576: true; the input reads as it did. -/
def planRotsUptoRow : OpenClaim := { program := "ytmdkboojafbpcaadoor", sum := "da14ddeb89e46bdd299a02ebd81d00884d4b7d86f2692c98c678fed00d65ae1c", func := "annex/annexlaw6.PlanRots", spec := "planRots", inPlace := ["internal/reflectlite.TypeOf", "internal/reflectlite.ValueOf", "(internal/reflectlite.Value).Type", "(internal/reflectlite.Value).IsNil", "(internal/reflectlite.Value).Elem", "(internal/reflectlite.Value).Set"], unfollowed := true, recurses := true, named := ["annex/plan.bounds", "annex/bits.errTrouble", "errors.errorType"], apart := false, laid := [("errors.errorType", laid_errors_errorType), ("annex/bits.errTrouble", laid_annex_bits_errTrouble), ("annex/plan.bounds", laid_annex_plan_bounds)], narrowed := true }
def PlanRotsUptoSaid : Prop := planRotsUptoRow.holds Tryd.pinned (OpenSpec.upto planRotsSpec)

/-- 'annexlaw6.PlanCovers', WHERE WHAT IT READS IS OF BULK AT MOST 1048576: true; the input reads as it did. -/
def planCoversUptoRow : OpenClaim := { program := "ytmdkboojafbpcaadoor", sum := "da14ddeb89e46bdd299a02ebd81d00884d4b7d86f2692c98c678fed00d65ae1c", func := "annex/annexlaw6.PlanCovers", spec := "planCovers", inPlace := ["internal/reflectlite.TypeOf", "internal/reflectlite.ValueOf", "(internal/reflectlite.Value).Type", "(internal/reflectlite.Value).IsNil", "(internal/reflectlite.Value).Elem", "(internal/reflectlite.Value).Set"], unfollowed := true, recurses := true, named := ["annex/plan.bounds", "annex/bits.errTrouble", "errors.errorType"], apart := false, laid := [("errors.errorType", laid_errors_errorType), ("annex/bits.errTrouble", laid_annex_bits_errTrouble), ("annex/plan.bounds", laid_annex_plan_bounds)], narrowed := true }
def PlanCoversUptoSaid : Prop := planCoversUptoRow.holds Tryd.pinned (OpenSpec.upto planCoversSpec)

/-- 'annexlaw6.PlanRoom', WHERE WHAT IT READS IS OF BULK AT MOST 1048576: true; the input reads as it did. -/
def planRoomUptoRow : OpenClaim := { program := "ytmdkboojafbpcaadoor", sum := "da14ddeb89e46bdd299a02ebd81d00884d4b7d86f2692c98c678fed00d65ae1c", func := "annex/annexlaw6.PlanRoom", spec := "planRoom", inPlace := ["internal/reflectlite.TypeOf", "internal/reflectlite.ValueOf", "(internal/reflectlite.Value).Type", "(internal/reflectlite.Value).IsNil", "(internal/reflectlite.Value).Elem", "(internal/reflectlite.Value).Set"], unfollowed := true, recurses := true, named := ["annex/plan.bounds", "annex/bits.errTrouble", "errors.errorType"], apart := false, laid := [("errors.errorType", laid_errors_errorType), ("annex/bits.errTrouble", laid_annex_bits_errTrouble), ("annex/plan.bounds", laid_annex_plan_bounds)], narrowed := true }
def PlanRoomUptoSaid : Prop := planRoomUptoRow.holds Tryd.pinned (OpenSpec.upto planRoomSpec)

/-- 'annexlaw6.PlanNewMemory', WHERE WHAT IT READS IS OF BULK AT MOST 1048576: true; the input reads as it did. -/
def planNewMemoryUptoRow : OpenClaim := { program := "ytmdkboojafbpcaadoor", sum := "da14ddeb89e46bdd299a02ebd81d00884d4b7d86f2692c98c678fed00d65ae1c", func := "annex/annexlaw6.PlanNewMemory", spec := "planNewMemory", inPlace := ["internal/reflectlite.TypeOf", "internal/reflectlite.ValueOf", "(internal/reflectlite.Value).Type", "(internal/reflectlite.Value).IsNil", "(internal/reflectlite.Value).Elem", "(internal/reflectlite.Value).Set"], unfollowed := true, recurses := true, named := ["annex/plan.bounds", "annex/bits.errTrouble", "errors.errorType"], apart := false, laid := [("errors.errorType", laid_errors_errorType), ("annex/bits.errTrouble", laid_annex_bits_errTrouble), ("annex/plan.bounds", laid_annex_plan_bounds)], narrowed := true }
def PlanNewMemoryUptoSaid : Prop := planNewMemoryUptoRow.holds Tryd.pinned (OpenSpec.upto planNewMemorySpec)

end Rows
end Go.Proofs.YtmdkboojafbpcaaDoor
