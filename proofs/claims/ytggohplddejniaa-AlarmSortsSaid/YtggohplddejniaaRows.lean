/-
  No cell of these rows narrows 'for every input' (looked for: loops, veiled, ifaces, maps, wideKeys, modest, calm, conditions, laid).
  DERIVED. THE GIVEN ROWS OF THIS SEAT. 4 by the template 'for every input the law returns true; each argument reads behind the call as it read before'; 0 by the template 'total and deterministic' (their statements: YtggohplddejniaaTotals.lean).
  GIVEN WITH THE SEED: the statements are not yours to turn. If you find one false, say at which input.
  Laid BY PROGRAM, IN A SANDBOX (cutbox-rows.mjs): the forced cells as the released guide's own fill.sh prints them over the translation 63754ef18991dd41… (all of the seat's roots in one cut). By AI agents, Wed Nov 11 2026. No macro, syntax, notation, axiom, sorry.
-/
import Derived.Test.YtggohplddejniaaChecked
import GoSem.Claim
import GoSem.ClaimJoined
import GoSem.ClaimMapViews
import Derived.JoinedTies
import Derived.KernelRfl
namespace Go.Proofs.Ytggohplddejniaa
/- THE CELL 'sum', in the pinned program and in every row, IS THE sha256 OF THE DUMP (.gsa) THAT YtggohplddejniaaProg.lean LOADS. Nothing in Lean hashes anything: it is a label: what it is worth is what the hold of that sum in a sandbox is worth. -/
noncomputable def Try.pinned : Pinned := { name := "ytggohplddejniaa", sum := "63754ef18991dd4190755305fa743f443c2a2016977e0cd33171af70dff35615", checked := Try.checked }
namespace Rows
def none {H : Type} : Left H := { results := [], args := [] }

/-- 'annexlaw16.AlarmForgets': WHATEVER THE INPUT: true; the input reads as it did. -/
def alarmForgetsSpec : ChangeSpec := { name := "alarmForgets", fn := fun _ => fun
  | [d1, d2, d3] => { results := [.lit (.bool true)], args := [d1, d2, d3] }
  | _ => none }
def alarmForgetsRow : OpenClaim := { program := "ytggohplddejniaa", sum := "63754ef18991dd4190755305fa743f443c2a2016977e0cd33171af70dff35615", func := "annex/annexlaw16.AlarmForgets", spec := "alarmForgets", unfollowed := true, recurses := true, apart := false }
def AlarmForgetsSaid : Prop := alarmForgetsRow.holds Try.pinned (OpenSpec.ofChange alarmForgetsSpec)

/-- ITS FALSE NEIGHBOUR: 'it returns false'. Refute it at one input. -/
def alarmForgetsWrong : ChangeSpec := { name := "alarmForgets", fn := fun _ => fun
  | [d1, d2, d3] => { results := [.lit (.bool false)], args := [d1, d2, d3] }
  | _ => none }
def AlarmForgetsWrongFalsely : Prop := alarmForgetsRow.holds Try.pinned (OpenSpec.ofChange alarmForgetsWrong)

/-- 'annexlaw16.AlarmPlays': WHATEVER THE INPUT: true; the input reads as it did. -/
def alarmPlaysSpec : ChangeSpec := { name := "alarmPlays", fn := fun _ => fun
  | [d] => { results := [.lit (.bool true)], args := [d] }
  | _ => none }
def alarmPlaysRow : OpenClaim := { program := "ytggohplddejniaa", sum := "63754ef18991dd4190755305fa743f443c2a2016977e0cd33171af70dff35615", func := "annex/annexlaw16.AlarmPlays", spec := "alarmPlays", unfollowed := true, recurses := true, apart := false }
def AlarmPlaysSaid : Prop := alarmPlaysRow.holds Try.pinned (OpenSpec.ofChange alarmPlaysSpec)

/-- ITS FALSE NEIGHBOUR: 'it returns false'. Refute it at one input. -/
def alarmPlaysWrong : ChangeSpec := { name := "alarmPlays", fn := fun _ => fun
  | [d] => { results := [.lit (.bool false)], args := [d] }
  | _ => none }
def AlarmPlaysWrongFalsely : Prop := alarmPlaysRow.holds Try.pinned (OpenSpec.ofChange alarmPlaysWrong)

/-- 'annexlaw16.AlarmTexts': WHATEVER THE INPUT: true; the input reads as it did. -/
def alarmTextsSpec : ChangeSpec := { name := "alarmTexts", fn := fun _ => fun
  | [d] => { results := [.lit (.bool true)], args := [d] }
  | _ => none }
def alarmTextsRow : OpenClaim := { program := "ytggohplddejniaa", sum := "63754ef18991dd4190755305fa743f443c2a2016977e0cd33171af70dff35615", func := "annex/annexlaw16.AlarmTexts", spec := "alarmTexts", unfollowed := true, recurses := true, apart := false }
def AlarmTextsSaid : Prop := alarmTextsRow.holds Try.pinned (OpenSpec.ofChange alarmTextsSpec)

/-- ITS FALSE NEIGHBOUR: 'it returns false'. Refute it at one input. -/
def alarmTextsWrong : ChangeSpec := { name := "alarmTexts", fn := fun _ => fun
  | [d] => { results := [.lit (.bool false)], args := [d] }
  | _ => none }
def AlarmTextsWrongFalsely : Prop := alarmTextsRow.holds Try.pinned (OpenSpec.ofChange alarmTextsWrong)

/-- 'annexlaw16.AlarmSorts': WHATEVER THE INPUT: true; the input reads as it did. -/
def alarmSortsSpec : ChangeSpec := { name := "alarmSorts", fn := fun _ => fun
  | [d1, d2] => { results := [.lit (.bool true)], args := [d1, d2] }
  | _ => none }
def alarmSortsRow : OpenClaim := { program := "ytggohplddejniaa", sum := "63754ef18991dd4190755305fa743f443c2a2016977e0cd33171af70dff35615", func := "annex/annexlaw16.AlarmSorts", spec := "alarmSorts", unfollowed := true, recurses := true, apart := false }
def AlarmSortsSaid : Prop := alarmSortsRow.holds Try.pinned (OpenSpec.ofChange alarmSortsSpec)

/-- ITS FALSE NEIGHBOUR: 'it returns false'. Refute it at one input. -/
def alarmSortsWrong : ChangeSpec := { name := "alarmSorts", fn := fun _ => fun
  | [d1, d2] => { results := [.lit (.bool false)], args := [d1, d2] }
  | _ => none }
def AlarmSortsWrongFalsely : Prop := alarmSortsRow.holds Try.pinned (OpenSpec.ofChange alarmSortsWrong)

/- THE SECOND FORM. 'bulk': how many values and letters a reading holds, each counted each time it is reached (what is shared counts as often as it is met; a slice's spare places count too). A statement '..UptoSaid' is the law's where the arguments, and the package variables that the reading takes, are together of bulk at most 1048576: NARROWER than '..Said'. Prove '..Said' where nothing that the law and all that it calls make is longer than what came in: it says more and counts as full. Else prove '..UptoSaid'. A law counts once. -/
mutual
def uptoBulk {H : Type} : DataW H → Nat
  | .lit (.string bytes) => bytes.length + 1
  | .lit _ => 1
  | .nil => 1
  | .ptr d => uptoBulk d + 1
  | .slice elems spare => uptoBulkAll elems + uptoBulkAll spare + 1
  | .agg parts => uptoBulkAll parts + 1
  | .iface _ d => uptoBulk d + 1
  | .map entries => uptoBulkEntries entries + 1
  | .held _ => 1
def uptoBulkAll {H : Type} : List (DataW H) → Nat
  | [] => 0
  | d :: r => uptoBulk d + uptoBulkAll r
def uptoBulkEntries {H : Type} : List (Lit × DataW H) → Nat
  | [] => 0
  | x :: r => uptoBulkEntry x + uptoBulkEntries r
def uptoBulkEntry {H : Type} : Lit × DataW H → Nat
  | (.string bytes, d) => bytes.length + uptoBulk d + 1
  | (_, d) => uptoBulk d + 1
 end
def uptoSmall : (H : Type) → List (DataW H) → Bool := fun _ ds => decide (uptoBulkAll ds ≤ 1048576)
def OpenSpec.upto (s : _root_.Go.ChangeSpec) : _root_.Go.OpenSpec := { _root_.Go.OpenSpec.ofChange s with cond := some uptoSmall }

/-- 'annexlaw16.AlarmForgets', WHERE WHAT IT READS IS OF BULK AT MOST 1048576: true; the input reads as it did. -/
def alarmForgetsUptoRow : OpenClaim := { program := "ytggohplddejniaa", sum := "63754ef18991dd4190755305fa743f443c2a2016977e0cd33171af70dff35615", func := "annex/annexlaw16.AlarmForgets", spec := "alarmForgets", unfollowed := true, recurses := true, apart := false, narrowed := true }
def AlarmForgetsUptoSaid : Prop := alarmForgetsUptoRow.holds Try.pinned (OpenSpec.upto alarmForgetsSpec)

/-- 'annexlaw16.AlarmPlays', WHERE WHAT IT READS IS OF BULK AT MOST 1048576: true; the input reads as it did. -/
def alarmPlaysUptoRow : OpenClaim := { program := "ytggohplddejniaa", sum := "63754ef18991dd4190755305fa743f443c2a2016977e0cd33171af70dff35615", func := "annex/annexlaw16.AlarmPlays", spec := "alarmPlays", unfollowed := true, recurses := true, apart := false, narrowed := true }
def AlarmPlaysUptoSaid : Prop := alarmPlaysUptoRow.holds Try.pinned (OpenSpec.upto alarmPlaysSpec)

/-- 'annexlaw16.AlarmTexts', WHERE WHAT IT READS IS OF BULK AT MOST 1048576: true; the input reads as it did. -/
def alarmTextsUptoRow : OpenClaim := { program := "ytggohplddejniaa", sum := "63754ef18991dd4190755305fa743f443c2a2016977e0cd33171af70dff35615", func := "annex/annexlaw16.AlarmTexts", spec := "alarmTexts", unfollowed := true, recurses := true, apart := false, narrowed := true }
def AlarmTextsUptoSaid : Prop := alarmTextsUptoRow.holds Try.pinned (OpenSpec.upto alarmTextsSpec)

/-- 'annexlaw16.AlarmSorts', WHERE WHAT IT READS IS OF BULK AT MOST 1048576: true; the input reads as it did. -/
def alarmSortsUptoRow : OpenClaim := { program := "ytggohplddejniaa", sum := "63754ef18991dd4190755305fa743f443c2a2016977e0cd33171af70dff35615", func := "annex/annexlaw16.AlarmSorts", spec := "alarmSorts", unfollowed := true, recurses := true, apart := false, narrowed := true }
def AlarmSortsUptoSaid : Prop := alarmSortsUptoRow.holds Try.pinned (OpenSpec.upto alarmSortsSpec)

end Rows
end Go.Proofs.Ytggohplddejniaa
