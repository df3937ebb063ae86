import Derived.Test.YtbelfaoolnijiaaPurSplit
import Derived.Test.YtbelfaoolnijiaaPAx18
namespace Go.Proofs.Ytbelfaoolnijiaa.Pure
open Go.RowKit Go.Proofs.Ytbelfaoolnijiaa Go.Proofs.Ytbelfaoolnijiaa.PA Go.Proofs.YtbelfaoolnijiaaW.PrintWords Go.Proofs.YtbelfaoolnijiaaW.PrintLast Go.Proofs.YtbelfaoolnijiaaW.PrintMore
theorem rdOf_small {l : List ByteArray} (hs : ∀ s ∈ l, s.size ≤ 1048576) (i : Int) : (rdOf ByteArray.empty l i).size ≤ 1048576 := by
  unfold rdOf
  rw [List.getD_eq_getElem?_getD]
  cases h : l[i.toNat]? with
  | none => simp
  | some x => exact hs x (List.mem_of_getElem? h)
theorem split_len (p : ByteArray) {l : List ByteArray} {e : Int} (h : names_Split.f p = some (l, e)) : l.length ≤ 16 := by
  rcases split_cases p with ⟨m, hp⟩ | ⟨e2, hp, _⟩
  · rw [hp] at h
    obtain ⟨rfl, _⟩ := Prod.mk.inj (Option.some.inj h)
    exact (split_ok hp).1
  · rw [hp] at h
    obtain ⟨rfl, _⟩ := Prod.mk.inj (Option.some.inj h)
    simp
theorem splits_l (l : List ByteArray) (hl : l.length ≤ 1048576) (hs : ∀ s ∈ l, s.size ≤ 1048576) (d : Nat) : ∀ (k : Nat) (i : Int), 0 ≤ i → i ≤ l.length → l.length - i = d → d + 1048800 ≤ k → annexlaw3_NamesSplits.l0 k l i = some true := by
  induction d with
  | zero =>
    intro k i h0 h1 hd hk
    obtain ⟨k, rfl⟩ : ∃ m, k = m + 1 := ⟨k - 1, by omega⟩
    simp only [annexlaw3_NamesSplits.l0]
    rw [if_neg (by omega)]
  | succ d ih =>
    intro k i h0 h1 hd hk
    obtain ⟨k, rfl⟩ : ∃ m, k = m + 1 := ⟨k - 1, by omega⟩
    have hw : wrap64 (i + 1) = i + 1 := by unfold wrap64; omega
    have hz := rdOf_small hs i
    simp only [annexlaw3_NamesSplits.l0]
    rw [if_pos (by omega), if_pos h0, refSplit_f _ (by omega) k (by omega)]
    obtain ⟨m, e, hm⟩ : ∃ m e, names_Split.f (rdOf ByteArray.empty l i) = some (m, e) := ⟨_, _, rfl⟩
    have hml := split_len _ hm
    rw [hm]
    simp only [Option.bind_some]
    rw [same_f _ _ k (by omega) (by omega)]
    simp only [Option.bind_some, num_f, if_true, hw, decide_true]
    exact ih k (i + 1) (by omega) (by omega) (by omega) (by omega)
theorem NamesSplits (l : List ByteArray) (hl : l.length ≤ 1048576) (hs : ∀ s ∈ l, s.size ≤ 1048576) : ∃ k, annexlaw3_NamesSplits.f k l = some true := by
  refine ⟨l.length + 1048900, ?_⟩
  simp only [annexlaw3_NamesSplits.f, first_f _ (show 5 ≤ l.length + 1048900 by omega), Option.bind_some, if_true]
  exact splits_l l hl hs l.length _ 0 (by omega) (by omega) (by omega) (by omega)
end Go.Proofs.Ytbelfaoolnijiaa.Pure
