import Derived.Test.YtmdkboojafbpcaaDoorArg
import Derived.SizedLaws
namespace Go.Proofs.YtmdkboojafbpcaaDoor
open Go Go.Proofs Go.ChangeShapes Go.WideShapes Go.ChangeAt Go.RowKit
set_option maxRecDepth 100000
theorem bytes_len {H : Type} {ts : List TypeId} {ds : List (DataW H)} {jj : Nat} {d : DataW H} {bs : List Int} (hsz : (DataW.weightsEach Tryd.prog ts ds).all (· ≤ reachBytes) = true) (htj : ts[jj]? = some 35) (hdj : ds[jj]? = some d)
    (dd : (d = .nil ∧ bs = []) ∨ ∃ (D : Nat → DataW H) (rest : List (DataW H)), d = .slice ((List.range bs.length).map D) rest) : bs.length ≤ 140737488351232 := by
  rcases dd with ⟨_, rfl⟩ | ⟨D, rest, rfl⟩
  · exact Nat.zero_le _
  · have z := sized_slice hsz htj hdj Tryd.underlying35
    rw [show Tryd.prog.bytesOf 5 = 1 by kernel_rfl] at z
    simp only [List.length_map, List.length_range] at z
    have hr : reachBytes = 140737488351232 := by decide
    omega
end Go.Proofs.YtmdkboojafbpcaaDoor
