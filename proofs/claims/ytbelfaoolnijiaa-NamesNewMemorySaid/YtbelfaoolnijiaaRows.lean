/-
  No cell of these rows narrows 'for every input' (looked for: loops, veiled, ifaces, maps, wideKeys, modest, calm, conditions, laid).
  DERIVED. THE GIVEN ROWS OF THIS SEAT. 9 by the template 'for every input the law returns true; each argument reads behind the call as it read before'; 0 by the template 'total and deterministic' (their statements: YtbelfaoolnijiaaTotals.lean).
  GIVEN WITH THE SEED: the statements are not yours to turn. If you find one false, say at which input.
  Laid BY PROGRAM, IN A SANDBOX (cutbox-rows.mjs): the forced cells as the released guide's own fill.sh prints them over the translation 7962fc913e724022… (all of the seat's roots in one cut). By AI agents, Wed Nov 11 2026. No macro, syntax, notation, axiom, sorry.
-/
import Derived.Test.YtbelfaoolnijiaaChecked
import GoSem.Claim
import GoSem.ClaimJoined
import GoSem.ClaimMapViews
import Derived.JoinedTies
import Derived.KernelRfl
namespace Go.Proofs.Ytbelfaoolnijiaa
/- THE CELL 'sum', in the pinned program and in every row, IS THE sha256 OF THE DUMP (.gsa) THAT YtbelfaoolnijiaaProg.lean LOADS. Nothing in Lean hashes anything: it is a label: what it is worth is what the hold of that sum in a sandbox is worth. -/
noncomputable def Try.pinned : Pinned := { name := "ytbelfaoolnijiaa", sum := "7962fc913e7240229492a27b2760c14c22db4fa390fce80ab10c24243dc64a36", checked := Try.checked }
namespace Rows
def none {H : Type} : Left H := { results := [], args := [] }

/-- 'annexlaw3.NamesChecks': WHATEVER THE INPUT: true; the input reads as it did. -/
def namesChecksSpec : ChangeSpec := { name := "namesChecks", fn := fun _ => fun
  | [d] => { results := [.lit (.bool true)], args := [d] }
  | _ => none }
def namesChecksRow : OpenClaim := { program := "ytbelfaoolnijiaa", sum := "7962fc913e7240229492a27b2760c14c22db4fa390fce80ab10c24243dc64a36", func := "annex/annexlaw3.NamesChecks", spec := "namesChecks", inPlace := ["internal/bytealg.IndexByteString", "internal/abi.NoEscape", "internal/bytealg.MakeNoZero"], unfollowed := true, recurses := true, apart := false }
def NamesChecksSaid : Prop := namesChecksRow.holds Try.pinned (OpenSpec.ofChange namesChecksSpec)

/-- ITS FALSE NEIGHBOUR: 'it returns false'. Refute it at one input. -/
def namesChecksWrong : ChangeSpec := { name := "namesChecks", fn := fun _ => fun
  | [d] => { results := [.lit (.bool false)], args := [d] }
  | _ => none }
def NamesChecksWrongFalsely : Prop := namesChecksRow.holds Try.pinned (OpenSpec.ofChange namesChecksWrong)

/-- 'annexlaw3.NamesSplits': WHATEVER THE INPUT: true; the input reads as it did. -/
def namesSplitsSpec : ChangeSpec := { name := "namesSplits", fn := fun _ => fun
  | [d] => { results := [.lit (.bool true)], args := [d] }
  | _ => none }
def namesSplitsRow : OpenClaim := { program := "ytbelfaoolnijiaa", sum := "7962fc913e7240229492a27b2760c14c22db4fa390fce80ab10c24243dc64a36", func := "annex/annexlaw3.NamesSplits", spec := "namesSplits", inPlace := ["internal/bytealg.IndexByteString", "internal/abi.NoEscape", "internal/bytealg.MakeNoZero"], unfollowed := true, recurses := true, apart := false }
def NamesSplitsSaid : Prop := namesSplitsRow.holds Try.pinned (OpenSpec.ofChange namesSplitsSpec)

/-- ITS FALSE NEIGHBOUR: 'it returns false'. Refute it at one input. -/
def namesSplitsWrong : ChangeSpec := { name := "namesSplits", fn := fun _ => fun
  | [d] => { results := [.lit (.bool false)], args := [d] }
  | _ => none }
def NamesSplitsWrongFalsely : Prop := namesSplitsRow.holds Try.pinned (OpenSpec.ofChange namesSplitsWrong)

/-- 'annexlaw3.NamesJoins': WHATEVER THE INPUT: true; the input reads as it did. -/
def namesJoinsSpec : ChangeSpec := { name := "namesJoins", fn := fun _ => fun
  | [d] => { results := [.lit (.bool true)], args := [d] }
  | _ => none }
def namesJoinsRow : OpenClaim := { program := "ytbelfaoolnijiaa", sum := "7962fc913e7240229492a27b2760c14c22db4fa390fce80ab10c24243dc64a36", func := "annex/annexlaw3.NamesJoins", spec := "namesJoins", inPlace := ["internal/bytealg.IndexByteString", "internal/abi.NoEscape", "internal/bytealg.MakeNoZero"], unfollowed := true, recurses := true, apart := false }
def NamesJoinsSaid : Prop := namesJoinsRow.holds Try.pinned (OpenSpec.ofChange namesJoinsSpec)

/-- ITS FALSE NEIGHBOUR: 'it returns false'. Refute it at one input. -/
def namesJoinsWrong : ChangeSpec := { name := "namesJoins", fn := fun _ => fun
  | [d] => { results := [.lit (.bool false)], args := [d] }
  | _ => none }
def NamesJoinsWrongFalsely : Prop := namesJoinsRow.holds Try.pinned (OpenSpec.ofChange namesJoinsWrong)

/-- 'annexlaw3.NamesTurns': WHATEVER THE INPUT: true; the input reads as it did. -/
def namesTurnsSpec : ChangeSpec := { name := "namesTurns", fn := fun _ => fun
  | [d1, d2] => { results := [.lit (.bool true)], args := [d1, d2] }
  | _ => none }
def namesTurnsRow : OpenClaim := { program := "ytbelfaoolnijiaa", sum := "7962fc913e7240229492a27b2760c14c22db4fa390fce80ab10c24243dc64a36", func := "annex/annexlaw3.NamesTurns", spec := "namesTurns", inPlace := ["internal/bytealg.IndexByteString", "internal/abi.NoEscape", "internal/bytealg.MakeNoZero"], unfollowed := true, recurses := true, apart := false }
def NamesTurnsSaid : Prop := namesTurnsRow.holds Try.pinned (OpenSpec.ofChange namesTurnsSpec)

/-- ITS FALSE NEIGHBOUR: 'it returns false'. Refute it at one input. -/
def namesTurnsWrong : ChangeSpec := { name := "namesTurns", fn := fun _ => fun
  | [d1, d2] => { results := [.lit (.bool false)], args := [d1, d2] }
  | _ => none }
def NamesTurnsWrongFalsely : Prop := namesTurnsRow.holds Try.pinned (OpenSpec.ofChange namesTurnsWrong)

/-- 'annexlaw3.NamesPlain': WHATEVER THE INPUT: true; the input reads as it did. -/
def namesPlainSpec : ChangeSpec := { name := "namesPlain", fn := fun _ => fun
  | [d] => { results := [.lit (.bool true)], args := [d] }
  | _ => none }
def namesPlainRow : OpenClaim := { program := "ytbelfaoolnijiaa", sum := "7962fc913e7240229492a27b2760c14c22db4fa390fce80ab10c24243dc64a36", func := "annex/annexlaw3.NamesPlain", spec := "namesPlain", inPlace := ["internal/bytealg.IndexByteString", "internal/abi.NoEscape", "internal/bytealg.MakeNoZero"], unfollowed := true, recurses := true, apart := false }
def NamesPlainSaid : Prop := namesPlainRow.holds Try.pinned (OpenSpec.ofChange namesPlainSpec)

/-- ITS FALSE NEIGHBOUR: 'it returns false'. Refute it at one input. -/
def namesPlainWrong : ChangeSpec := { name := "namesPlain", fn := fun _ => fun
  | [d] => { results := [.lit (.bool false)], args := [d] }
  | _ => none }
def NamesPlainWrongFalsely : Prop := namesPlainRow.holds Try.pinned (OpenSpec.ofChange namesPlainWrong)

/-- 'annexlaw3.NamesNewMemory': WHATEVER THE INPUT: true; the input reads as it did. -/
def namesNewMemorySpec : ChangeSpec := { name := "namesNewMemory", fn := fun _ => fun
  | [d] => { results := [.lit (.bool true)], args := [d] }
  | _ => none }
def namesNewMemoryRow : OpenClaim := { program := "ytbelfaoolnijiaa", sum := "7962fc913e7240229492a27b2760c14c22db4fa390fce80ab10c24243dc64a36", func := "annex/annexlaw3.NamesNewMemory", spec := "namesNewMemory", inPlace := ["internal/bytealg.IndexByteString", "internal/abi.NoEscape", "internal/bytealg.MakeNoZero"], unfollowed := true, recurses := true, apart := false }
def NamesNewMemorySaid : Prop := namesNewMemoryRow.holds Try.pinned (OpenSpec.ofChange namesNewMemorySpec)

/-- ITS FALSE NEIGHBOUR: 'it returns false'. Refute it at one input. -/
def namesNewMemoryWrong : ChangeSpec := { name := "namesNewMemory", fn := fun _ => fun
  | [d] => { results := [.lit (.bool false)], args := [d] }
  | _ => none }
def NamesNewMemoryWrongFalsely : Prop := namesNewMemoryRow.holds Try.pinned (OpenSpec.ofChange namesNewMemoryWrong)

/-- 'annexlaw3.NamesShort': WHATEVER THE INPUT: true; the input reads as it did. -/
def namesShortSpec : ChangeSpec := { name := "namesShort", fn := fun _ => fun
  | [d] => { results := [.lit (.bool true)], args := [d] }
  | _ => none }
def namesShortRow : OpenClaim := { program := "ytbelfaoolnijiaa", sum := "7962fc913e7240229492a27b2760c14c22db4fa390fce80ab10c24243dc64a36", func := "annex/annexlaw3.NamesShort", spec := "namesShort", inPlace := ["internal/bytealg.IndexByteString", "internal/abi.NoEscape", "internal/bytealg.MakeNoZero"], unfollowed := true, recurses := true, apart := false }
def NamesShortSaid : Prop := namesShortRow.holds Try.pinned (OpenSpec.ofChange namesShortSpec)

/-- ITS FALSE NEIGHBOUR: 'it returns false'. Refute it at one input. -/
def namesShortWrong : ChangeSpec := { name := "namesShort", fn := fun _ => fun
  | [d] => { results := [.lit (.bool false)], args := [d] }
  | _ => none }
def NamesShortWrongFalsely : Prop := namesShortRow.holds Try.pinned (OpenSpec.ofChange namesShortWrong)

/-- 'annexlaw3.NamesAdds': WHATEVER THE INPUT: true; the input reads as it did. -/
def namesAddsSpec : ChangeSpec := { name := "namesAdds", fn := fun _ => fun
  | [d] => { results := [.lit (.bool true)], args := [d] }
  | _ => none }
def namesAddsRow : OpenClaim := { program := "ytbelfaoolnijiaa", sum := "7962fc913e7240229492a27b2760c14c22db4fa390fce80ab10c24243dc64a36", func := "annex/annexlaw3.NamesAdds", spec := "namesAdds", inPlace := ["internal/bytealg.IndexByteString", "internal/abi.NoEscape", "internal/bytealg.MakeNoZero"], unfollowed := true, recurses := true, apart := false }
def NamesAddsSaid : Prop := namesAddsRow.holds Try.pinned (OpenSpec.ofChange namesAddsSpec)

/-- ITS FALSE NEIGHBOUR: 'it returns false'. Refute it at one input. -/
def namesAddsWrong : ChangeSpec := { name := "namesAdds", fn := fun _ => fun
  | [d] => { results := [.lit (.bool false)], args := [d] }
  | _ => none }
def NamesAddsWrongFalsely : Prop := namesAddsRow.holds Try.pinned (OpenSpec.ofChange namesAddsWrong)

/-- 'annexlaw3.NamesUps': WHATEVER THE INPUT: true; the input reads as it did. -/
def namesUpsSpec : ChangeSpec := { name := "namesUps", fn := fun _ => fun
  | [d1, d2, d3] => { results := [.lit (.bool true)], args := [d1, d2, d3] }
  | _ => none }
def namesUpsRow : OpenClaim := { program := "ytbelfaoolnijiaa", sum := "7962fc913e7240229492a27b2760c14c22db4fa390fce80ab10c24243dc64a36", func := "annex/annexlaw3.NamesUps", spec := "namesUps", inPlace := ["internal/bytealg.IndexByteString", "internal/abi.NoEscape", "internal/bytealg.MakeNoZero"], unfollowed := true, recurses := true, apart := false }
def NamesUpsSaid : Prop := namesUpsRow.holds Try.pinned (OpenSpec.ofChange namesUpsSpec)

/-- ITS FALSE NEIGHBOUR: 'it returns false'. Refute it at one input. -/
def namesUpsWrong : ChangeSpec := { name := "namesUps", fn := fun _ => fun
  | [d1, d2, d3] => { results := [.lit (.bool false)], args := [d1, d2, d3] }
  | _ => none }
def NamesUpsWrongFalsely : Prop := namesUpsRow.holds Try.pinned (OpenSpec.ofChange namesUpsWrong)

/- THE SECOND FORM. 'bulk': how many values and letters a reading holds, each counted each time it is reached (what is shared counts as often as it is met; a slice's spare places count too). A statement '..UptoSaid' is the law's where the arguments, and the package variables that the reading takes, are together of bulk at most 1048576: NARROWER than '..Said'. Prove '..Said' where nothing that the law and all that it calls make is longer than what came in: it says more and counts as full. Else prove '..UptoSaid'. A law counts once. -/
mutual
def uptoBulk {H : Type} : DataW H → Nat
  | .lit (.string bytes) => bytes.length + 1
  | .lit _ => 1
  | .nil => 1
  | .ptr d => uptoBulk d + 1
  | .slice elems spare => uptoBulkAll elems + uptoBulkAll spare + 1
  | .agg parts => uptoBulkAll parts + 1
  | .iface _ d => uptoBulk d + 1
  | .map entries => uptoBulkEntries entries + 1
  | .held _ => 1
def uptoBulkAll {H : Type} : List (DataW H) → Nat
  | [] => 0
  | d :: r => uptoBulk d + uptoBulkAll r
def uptoBulkEntries {H : Type} : List (Lit × DataW H) → Nat
  | [] => 0
  | x :: r => uptoBulkEntry x + uptoBulkEntries r
def uptoBulkEntry {H : Type} : Lit × DataW H → Nat
  | (.string bytes, d) => bytes.length + uptoBulk d + 1
  | (_, d) => uptoBulk d + 1
 end
def uptoSmall : (H : Type) → List (DataW H) → Bool := fun _ ds => decide (uptoBulkAll ds ≤ 1048576)
def OpenSpec.upto (s : _root_.Go.ChangeSpec) : _root_.Go.OpenSpec := { _root_.Go.OpenSpec.ofChange s with cond := some uptoSmall }

/-- 'annexlaw3.NamesChecks', WHERE WHAT IT READS IS OF BULK AT MOST 1048576: true; the input reads as it did. -/
def namesChecksUptoRow : OpenClaim := { program := "ytbelfaoolnijiaa", sum := "7962fc913e7240229492a27b2760c14c22db4fa390fce80ab10c24243dc64a36", func := "annex/annexlaw3.NamesChecks", spec := "namesChecks", inPlace := ["internal/bytealg.IndexByteString", "internal/abi.NoEscape", "internal/bytealg.MakeNoZero"], unfollowed := true, recurses := true, apart := false, narrowed := true }
def NamesChecksUptoSaid : Prop := namesChecksUptoRow.holds Try.pinned (OpenSpec.upto namesChecksSpec)

/-- 'annexlaw3.NamesSplits', WHERE WHAT IT READS IS OF BULK AT MOST 1048576: true; the input reads as it did. -/
def namesSplitsUptoRow : OpenClaim := { program := "ytbelfaoolnijiaa", sum := "7962fc913e7240229492a27b2760c14c22db4fa390fce80ab10c24243dc64a36", func := "annex/annexlaw3.NamesSplits", spec := "namesSplits", inPlace := ["internal/bytealg.IndexByteString", "internal/abi.NoEscape", "internal/bytealg.MakeNoZero"], unfollowed := true, recurses := true, apart := false, narrowed := true }
def NamesSplitsUptoSaid : Prop := namesSplitsUptoRow.holds Try.pinned (OpenSpec.upto namesSplitsSpec)

/-- 'annexlaw3.NamesJoins', WHERE WHAT IT READS IS OF BULK AT MOST 1048576: true; the input reads as it did. -/
def namesJoinsUptoRow : OpenClaim := { program := "ytbelfaoolnijiaa", sum := "7962fc913e7240229492a27b2760c14c22db4fa390fce80ab10c24243dc64a36", func := "annex/annexlaw3.NamesJoins", spec := "namesJoins", inPlace := ["internal/bytealg.IndexByteString", "internal/abi.NoEscape", "internal/bytealg.MakeNoZero"], unfollowed := true, recurses := true, apart := false, narrowed := true }
def NamesJoinsUptoSaid : Prop := namesJoinsUptoRow.holds Try.pinned (OpenSpec.upto namesJoinsSpec)

/-- 'annexlaw3.NamesTurns', WHERE WHAT IT READS IS OF BULK AT MOST 1048576: true; the input reads as it did. -/
def namesTurnsUptoRow : OpenClaim := { program := "ytbelfaoolnijiaa", sum := "7962fc913e7240229492a27b2760c14c22db4fa390fce80ab10c24243dc64a36", func := "annex/annexlaw3.NamesTurns", spec := "namesTurns", inPlace := ["internal/bytealg.IndexByteString", "internal/abi.NoEscape", "internal/bytealg.MakeNoZero"], unfollowed := true, recurses := true, apart := false, narrowed := true }
def NamesTurnsUptoSaid : Prop := namesTurnsUptoRow.holds Try.pinned (OpenSpec.upto namesTurnsSpec)

/-- 'annexlaw3.NamesPlain', WHERE WHAT IT READS IS OF BULK AT MOST 1048576: true; the input reads as it did. -/
def namesPlainUptoRow : OpenClaim := { program := "ytbelfaoolnijiaa", sum := "7962fc913e7240229492a27b2760c14c22db4fa390fce80ab10c24243dc64a36", func := "annex/annexlaw3.NamesPlain", spec := "namesPlain", inPlace := ["internal/bytealg.IndexByteString", "internal/abi.NoEscape", "internal/bytealg.MakeNoZero"], unfollowed := true, recurses := true, apart := false, narrowed := true }
def NamesPlainUptoSaid : Prop := namesPlainUptoRow.holds Try.pinned (OpenSpec.upto namesPlainSpec)

/-- 'annexlaw3.NamesNewMemory', WHERE WHAT IT READS IS OF BULK AT MOST 1048576: true; the input reads as it did. -/
def namesNewMemoryUptoRow : OpenClaim := { program := "ytbelfaoolnijiaa", sum := "7962fc913e7240229492a27b2760c14c22db4fa390fce80ab10c24243dc64a36", func := "annex/annexlaw3.NamesNewMemory", spec := "namesNewMemory", inPlace := ["internal/bytealg.IndexByteString", "internal/abi.NoEscape", "internal/bytealg.MakeNoZero"], unfollowed := true, recurses := true, apart := false, narrowed := true }
def NamesNewMemoryUptoSaid : Prop := namesNewMemoryUptoRow.holds Try.pinned (OpenSpec.upto namesNewMemorySpec)

/-- 'annexlaw3.NamesShort', WHERE WHAT IT READS IS OF BULK AT MOST 1048576: true; the input reads as it did. -/
def namesShortUptoRow : OpenClaim := { program := "ytbelfaoolnijiaa", sum := "7962fc913e7240229492a27b2760c14c22db4fa390fce80ab10c24243dc64a36", func := "annex/annexlaw3.NamesShort", spec := "namesShort", inPlace := ["internal/bytealg.IndexByteString", "internal/abi.NoEscape", "internal/bytealg.MakeNoZero"], unfollowed := true, recurses := true, apart := false, narrowed := true }
def NamesShortUptoSaid : Prop := namesShortUptoRow.holds Try.pinned (OpenSpec.upto namesShortSpec)

/-- 'annexlaw3.NamesAdds', WHERE WHAT IT READS IS OF BULK AT MOST 1048576: true; the input reads as it did. -/
def namesAddsUptoRow : OpenClaim := { program := "ytbelfaoolnijiaa", sum := "7962fc913e7240229492a27b2760c14c22db4fa390fce80ab10c24243dc64a36", func := "annex/annexlaw3.NamesAdds", spec := "namesAdds", inPlace := ["internal/bytealg.IndexByteString", "internal/abi.NoEscape", "internal/bytealg.MakeNoZero"], unfollowed := true, recurses := true, apart := false, narrowed := true }
def NamesAddsUptoSaid : Prop := namesAddsUptoRow.holds Try.pinned (OpenSpec.upto namesAddsSpec)

/-- 'annexlaw3.NamesUps', WHERE WHAT IT READS IS OF BULK AT MOST 1048576: true; the input reads as it did. -/
def namesUpsUptoRow : OpenClaim := { program := "ytbelfaoolnijiaa", sum := "7962fc913e7240229492a27b2760c14c22db4fa390fce80ab10c24243dc64a36", func := "annex/annexlaw3.NamesUps", spec := "namesUps", inPlace := ["internal/bytealg.IndexByteString", "internal/abi.NoEscape", "internal/bytealg.MakeNoZero"], unfollowed := true, recurses := true, apart := false, narrowed := true }
def NamesUpsUptoSaid : Prop := namesUpsUptoRow.holds Try.pinned (OpenSpec.upto namesUpsSpec)

end Rows
end Go.Proofs.Ytbelfaoolnijiaa
