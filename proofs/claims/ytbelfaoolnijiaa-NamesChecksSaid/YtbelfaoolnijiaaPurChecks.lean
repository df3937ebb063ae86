import Derived.Test.YtbelfaoolnijiaaPurRef
import Derived.Test.YtbelfaoolnijiaaPAx14
namespace Go.Proofs.Ytbelfaoolnijiaa.Pure
open Go.RowKit Go.Proofs.Ytbelfaoolnijiaa Go.Proofs.Ytbelfaoolnijiaa.PA Go.Proofs.YtbelfaoolnijiaaW.PrintWords Go.Proofs.YtbelfaoolnijiaaW.PrintLast Go.Proofs.YtbelfaoolnijiaaW.PrintMore
theorem checks_l (l : List ByteArray) (hl : l.length * 16 ≤ 140737488351232) (d : Nat) : ∀ (k : Nat) (i : Int), 0 ≤ i → i ≤ l.length → l.length - i = d → d + 40 ≤ k → annexlaw3_NamesChecks.l0 k l i = some true := by
  induction d with
  | zero =>
    intro k i h0 h1 hd hk
    obtain ⟨k, rfl⟩ : ∃ m, k = m + 1 := ⟨k - 1, by omega⟩
    simp only [annexlaw3_NamesChecks.l0]
    rw [if_neg (by omega)]
  | succ d ih =>
    intro k i h0 h1 hd hk
    obtain ⟨k, rfl⟩ : ∃ m, k = m + 1 := ⟨k - 1, by omega⟩
    have hw : wrap64 (i + 1) = i + 1 := by unfold wrap64; omega
    simp only [annexlaw3_NamesChecks.l0]
    rw [if_pos (by omega), if_pos h0, refCheck_f _ k (by omega), check_f]
    simp only [Option.bind_some, num_f, if_true, hw]
    exact ih k (i + 1) (by omega) (by omega) (by omega) (by omega)
theorem NamesChecks (l : List ByteArray) (hl : l.length * 16 ≤ 140737488351232) : ∃ k, annexlaw3_NamesChecks.f k l = some true := by
  refine ⟨l.length + 50, ?_⟩
  simp only [annexlaw3_NamesChecks.f, first_f _ (show 5 ≤ l.length + 50 by omega), Option.bind_some, if_true]
  exact checks_l l hl l.length _ 0 (by omega) (by omega) (by omega) (by omega)
end Go.Proofs.Ytbelfaoolnijiaa.Pure
