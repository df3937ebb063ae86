import Derived.Test.YtbelfaoolnijiaaPurJoin
import Derived.Test.YtbelfaoolnijiaaPAx21
namespace Go.Proofs.Ytbelfaoolnijiaa.Pure
open Go.RowKit Go.Proofs.Ytbelfaoolnijiaa Go.Proofs.Ytbelfaoolnijiaa.PA Go.Proofs.YtbelfaoolnijiaaW.PrintWords Go.Proofs.YtbelfaoolnijiaaW.PrintLast Go.Proofs.YtbelfaoolnijiaaW.PrintMore
theorem joins_l (l : List ByteArray) (hl : l.length * 16 ≤ 140737488351232) (d : Nat) : ∀ (k : Nat) (x4 : List ByteArray) (i : Int), x4.length = l.length + 2 → 0 ≤ i → i ≤ l.length → l.length - i = d → d + 100 ≤ k → annexlaw3_NamesJoins.l0 k l x4 i = some true := by
  induction d with
  | zero =>
    intro k x4 i hx h0 h1 hd hk
    obtain ⟨k, rfl⟩ : ∃ m, k = m + 1 := ⟨k - 1, by omega⟩
    simp only [annexlaw3_NamesJoins.l0]
    rw [if_neg (by omega), if_pos (by omega), if_pos (by omega)]
    obtain ⟨a, e, ha⟩ : ∃ a e, names_Join.f (x4.take ((l.length : Int) : Int).toNat) = some (a, e) := ⟨_, _, rfl⟩
    rw [ha]
    simp only [Option.bind_some, List.nil_append]
    rw [refJoin_f _ k (by omega), ha, if_pos (by simp; omega)]
    simp [num_f]
  | succ d ih =>
    intro k x4 i hx h0 h1 hd hk
    obtain ⟨k, rfl⟩ : ∃ m, k = m + 1 := ⟨k - 1, by omega⟩
    have hw : wrap64 (i + 1) = i + 1 := by unfold wrap64; omega
    simp only [annexlaw3_NamesJoins.l0]
    rw [if_pos (by omega)]
    simp only [Option.bind_some]
    have hz : ∀ n : Int, (strOfNums [n]).size ≤ 100 := fun n => by simp [strOfNums, ba_size]
    have := hz ((wrap64 (97 + (Int.tmod i 20))) % 256)
    rw [if_pos (by omega), if_pos h0, if_pos (by omega), hw]
    exact ih k _ (i + 1) (by simp; omega) (by omega) (by omega) (by omega) (by omega)
theorem NamesJoins (l : List ByteArray) (hl : l.length * 16 ≤ 140737488351232) : ∃ k, annexlaw3_NamesJoins.f k l = some true := by
  refine ⟨l.length + 200, ?_⟩
  have hr : annexlaw3_roomy.f l = some (l ++ [⟨#[109, 97, 114, 107]⟩, ⟨#[109, 111, 114, 101]⟩]) := by
    simp only [annexlaw3_roomy.f, List.nil_append, Option.bind_some]
    rw [if_pos (by simp; omega), if_pos (by simp; omega)]
  simp only [annexlaw3_NamesJoins.f, first_f _ (show 5 ≤ l.length + 200 by omega), Option.bind_some, if_true, hr]
  rw [if_pos (by omega), if_pos (by simp; omega)]
  have ht : (l ++ [(⟨#[109, 97, 114, 107]⟩ : ByteArray), ⟨#[109, 111, 114, 101]⟩]).take ((l.length : Int) : Int).toNat = l := by simp
  obtain ⟨a, e, ha⟩ : ∃ a e, names_Join.f l = some (a, e) := ⟨_, _, rfl⟩
  rw [ht, ha]
  simp only [Option.bind_some]
  rw [refJoin_f l _ (by omega), ha]
  simp only [Option.bind_some]
  rw [same_f _ _ _ (by simp) (by simp; omega)]
  simp only [decide_true, Option.bind_some, if_true, num_f, bne_self_eq_false, annexlaw3_NamesJoins.j0, Bool.false_eq_true, if_false]
  exact joins_l l hl l.length (l.length + 199) (l ++ [⟨#[109, 97, 114, 107]⟩, ⟨#[109, 111, 114, 101]⟩]) 0 (by simp) (by omega) (by omega) (by omega) (by omega)
end Go.Proofs.Ytbelfaoolnijiaa.Pure
