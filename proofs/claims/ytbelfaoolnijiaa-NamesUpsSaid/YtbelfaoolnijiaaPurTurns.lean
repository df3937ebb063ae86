import Derived.Test.YtbelfaoolnijiaaPur0
import Derived.Test.YtbelfaoolnijiaaPAx22
namespace Go.Proofs.Ytbelfaoolnijiaa.Pure
open Go.RowKit Go.Proofs.Ytbelfaoolnijiaa Go.Proofs.Ytbelfaoolnijiaa.PA Go.Proofs.YtbelfaoolnijiaaW.PrintWords Go.Proofs.YtbelfaoolnijiaaW.PrintLast Go.Proofs.YtbelfaoolnijiaaW.PrintMore
theorem turns_j2 (k : Nat) (p : ByteArray) : annexlaw3_NamesTurns.j2 (k + 1) p = some true := by
  simp only [annexlaw3_NamesTurns.j2]
  rcases split_cases p with ⟨l, h⟩ | ⟨e, h, he⟩
  · obtain ⟨h1, h2, h3⟩ := split_ok h
    rw [h]
    simp only [Option.bind_some, num_f, if_true]
    rw [join_ok h1 h2]
    simp [h3]
  · rw [h]
    have : e ≠ 0 := by omega
    simp [num_f, this]
/-- Where all have been looked at: what is left. -/
theorem turns_end (l : List ByteArray) (p : ByteArray) (k : Nat) (i : Int) (hk : l.length + 4 ≤ k) (hl : l.length * 16 ≤ 140737488351232) (x6 : ByteArray) (x7 : Int) (b : Bool) (h6 : names_Join.f l = some (x6, x7)) (hb : b = (decide (l.length ≤ 16) && goodB l)) :
    annexlaw3_NamesTurns.j1 (k + 1) l p x6 x7 b i false = some true := by
  obtain ⟨k, rfl⟩ : ∃ m, k = m + 1 := ⟨k - 1, by omega⟩
  simp only [annexlaw3_NamesTurns.j1, num_f, Option.bind_some, Bool.false_eq_true, if_false]
  by_cases h16 : l.length ≤ 16
  · by_cases hg : goodB l = true
    · have hj := join_ok h16 hg
      rw [hj] at h6
      obtain ⟨rfl, rfl⟩ := Prod.mk.inj (Option.some.inj h6)
      have hbt : b = true := by simp [hb, h16, hg]
      subst hbt
      have hs := joinS_size h16 hg
      simp only [beq_self_eq_true, bne_self_eq_false, Bool.false_eq_true, if_false, if_true]
      rw [split_join h16 hg]
      simp only [Option.bind_some]
      rw [same_f _ _ _ (by omega) (by omega)]
      simp only [decide_true, Option.bind_some, if_true]
      rw [if_neg (by omega)]
      exact turns_j2 k p
    · have hbt : b = false := by simp [hb, hg]
      subst hbt
      have h7 : x7 = 31 := by
        simp only [names_Join.f, hg] at h6
        rw [if_neg (show ¬ 16 < l.length by omega)] at h6
        exact (Prod.mk.inj (Option.some.inj h6)).2.symm
      subst h7
      simp
      exact turns_j2 k p
  · have hbt : b = false := by simp [hb, h16]
    subst hbt
    have h7 : x7 = 33 := by
      simp only [names_Join.f] at h6
      rw [if_pos (by omega)] at h6
      exact (Prod.mk.inj (Option.some.inj h6)).2.symm
    subst h7
    simp
    exact turns_j2 k p
theorem rdOf_at (l : List ByteArray) (i : Int) (h0 : 0 ≤ i) (h1 : i < l.length) : rdOf ByteArray.empty l i = l[i.toNat]'(by omega) := by
  simp [rdOf, List.getD, List.getElem?_eq_getElem (show i.toNat < l.length by omega)]
theorem turns_l (l : List ByteArray) (p : ByteArray) (hl : l.length * 16 ≤ 140737488351232) (x6 : ByteArray) (x7 : Int) (h6 : names_Join.f l = some (x6, x7)) (h16 : l.length ≤ 16) (d : Nat) : ∀ (k : Nat) (i : Int), 0 ≤ i → i ≤ l.length → l.length - i = d → 2 * d + l.length + 10 ≤ k → goodB (l.take i.toNat) = true →
    annexlaw3_NamesTurns.l0 k l p x6 x7 true i = some true := by
  induction d with
  | zero =>
    intro k i h0 h1 hd hk hg
    obtain ⟨k, rfl⟩ : ∃ m, k = m + 2 := ⟨k - 2, by omega⟩
    rw [List.take_of_length_le (by omega)] at hg
    simp only [annexlaw3_NamesTurns.l0]
    rw [if_neg (by omega)]
    exact turns_end l p k i (by omega) hl x6 x7 true h6 (by simp [h16, hg])
  | succ d ih =>
    intro k i h0 h1 hd hk hg
    obtain ⟨k, rfl⟩ : ∃ m, k = m + 2 := ⟨k - 2, by omega⟩
    have hw : wrap64 (i + 1) = i + 1 := by unfold wrap64; omega
    have hlt : i.toNat < l.length := by omega
    simp only [annexlaw3_NamesTurns.l0]
    rw [if_pos (by omega)]
    simp only [annexlaw3_NamesTurns.j1, if_true, check_f, num_f, Option.bind_some, hw]
    rw [if_pos h0, if_pos (by omega), rdOf_at l i h0 (by omega)]
    have hsucc : goodB (l.take (i + 1).toNat) = (checkV (l[i.toNat]'hlt) == 0) := by
      rw [show (i + 1).toNat = i.toNat + 1 by omega, List.take_succ_eq_append_getElem hlt, good_snoc, hg]; rfl
    by_cases hc : checkV (l[i.toNat]'hlt) = 0
    · rw [hc]
      exact ih k (i + 1) (by omega) (by omega) (by omega) (by omega) (by rw [hsucc, hc]; rfl)
    · have hc2 : (checkV (l[i.toNat]'hlt) == 0) = false := by simpa using hc
      rw [hc2]
      have hgl : goodB l = false := by
        rw [← Bool.not_eq_true]; intro h
        exact hc (good_iff.1 h _ (List.getElem_mem hlt))
      obtain ⟨k, rfl⟩ : ∃ m, k = m + 2 := ⟨k - 2, by omega⟩
      simp only [annexlaw3_NamesTurns.l0]
      have := turns_end l p k (i + 1) (by omega) hl x6 x7 false h6 (by simp [hgl])
      split <;> exact this
theorem NamesTurns (l : List ByteArray) (p : ByteArray) (hl : l.length * 16 ≤ 140737488351232) (_ : p.size ≤ 140737488351232) : ∃ k, annexlaw3_NamesTurns.f k l p = some true := by
  refine ⟨3 * l.length + 20, ?_⟩
  simp only [annexlaw3_NamesTurns.f, first_f _ (show 5 ≤ 3 * l.length + 20 by omega), Option.bind_some, if_true]
  obtain ⟨x6, x7, h6⟩ : ∃ x6 x7, names_Join.f l = some (x6, x7) := ⟨_, _, rfl⟩
  rw [h6]
  simp only [Option.bind_some]
  by_cases h16 : l.length ≤ 16
  · have : (decide ((l.length : Int) ≤ 16)) = true := by simp; omega
    rw [this]
    exact turns_l l p hl x6 x7 h6 h16 l.length _ 0 (by omega) (by omega) (by omega) (by omega) (by simp [goodB])
  · have : (decide ((l.length : Int) ≤ 16)) = false := by simp; omega
    rw [this]
    obtain ⟨m, hm⟩ : ∃ m, 3 * l.length + 20 = m + 2 := ⟨3 * l.length + 18, by omega⟩
    rw [hm]
    simp only [annexlaw3_NamesTurns.l0]
    have := turns_end l p m 0 (by omega) hl x6 x7 false h6 (by simp [h16])
    split <;> exact this
end Go.Proofs.Ytbelfaoolnijiaa.Pure
