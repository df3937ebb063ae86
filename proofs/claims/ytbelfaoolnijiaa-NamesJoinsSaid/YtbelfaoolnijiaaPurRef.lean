import Derived.Test.YtbelfaoolnijiaaPur0
import Derived.Test.YtbelfaoolnijiaaPAx13
namespace Go.Proofs.Ytbelfaoolnijiaa.Pure
open Go.RowKit Go.Proofs.Ytbelfaoolnijiaa Go.Proofs.Ytbelfaoolnijiaa.PA Go.Proofs.YtbelfaoolnijiaaW.PrintWords Go.Proofs.YtbelfaoolnijiaaW.PrintLast Go.Proofs.YtbelfaoolnijiaaW.PrintMore
theorem fine_bt (s : ByteArray) (i : Int) (h0 : 0 ≤ i) (h1 : i < s.size) : (bt s i = 47 ∨ bt s i = 0) ↔ fineB (s.data.toList[i.toNat]'(by rw [← ba_size]; omega)) = false := by
  have hlt : i.toNat < s.size := by omega
  have hb : bt s i = ((s[i.toNat]'hlt).toNat : Int) := (bt_at s i hlt).symm
  have hg : s.data.toList[i.toNat]'(by rw [← ba_size]; omega) = s[i.toNat]'hlt := by simp; rfl
  rw [hb, hg]
  generalize s[i.toNat]'hlt = c
  constructor
  · rintro (h | h)
    · have : c = 47 := UInt8.toNat_inj.1 (by show _ = 47; omega)
      subst this; decide
    · have : c = 0 := UInt8.toNat_inj.1 (by show _ = 0; omega)
      subst this; decide
  · intro h
    by_cases e : c = 47
    · subst e; left; rfl
    · by_cases e0 : c = 0
      · subst e0; right; rfl
      · simp [fineB, e, e0] at h
theorem refCheck_l (s : ByteArray) (hs : s.size ≤ 23) (d : Nat) : ∀ (k : Nat) (i : Int), 0 ≤ i → i ≤ s.size → s.size - i = d → d + 1 ≤ k → annexref3_Check.l0 k s i = some (if (s.data.toList.drop i.toNat).all fineB then 0 else 31) := by
  induction d with
  | zero =>
    intro k i h0 h1 hd hk
    obtain ⟨k, rfl⟩ : ∃ m, k = m + 1 := ⟨k - 1, by omega⟩
    have hl := ba_size s
    simp only [annexref3_Check.l0]
    rw [if_neg (by omega), List.drop_of_length_le (by omega)]; rfl
  | succ d ih =>
    intro k i h0 h1 hd hk
    obtain ⟨k, rfl⟩ : ∃ m, k = m + 1 := ⟨k - 1, by omega⟩
    have hl := ba_size s
    have hw : wrap64 (i + 1) = i + 1 := by unfold wrap64; omega
    have hf := fine_bt s i h0 (by omega)
    simp only [annexref3_Check.l0]
    rw [if_pos (by omega), if_pos h0, hw, List.drop_eq_getElem_cons (show i.toNat < s.data.toList.length by omega), List.all_cons]
    by_cases c1 : bt s i = 47
    · rw [if_pos c1, hf.1 (.inl c1)]; rfl
    · rw [if_neg c1]
      by_cases c2 : bt s i = 0
      · rw [if_pos c2, hf.1 (.inr c2)]; rfl
      · rw [if_neg c2, ih k (i + 1) (by omega) (by omega) (by omega) (by omega), show (i + 1).toNat = i.toNat + 1 by omega]
        have : fineB (s.data.toList[i.toNat]'(by omega)) = true := by
          rw [← Bool.not_eq_false]; intro h; rcases hf.2 h with h | h
          · exact c1 h
          · exact c2 h
        rw [this]; rfl
theorem refCheck_f (s : ByteArray) (k : Nat) (hk : 30 ≤ k) : annexref3_Check.f k s = some (checkV s) := by
  obtain ⟨k, rfl⟩ : ∃ m, k = m + 1 := ⟨k - 1, by omega⟩
  have hl := ba_size s
  rw [checkV_eq, ← hl]
  simp only [annexref3_Check.f, annexref3_Check.j0]
  by_cases h1 : (s.size : Int) < 1
  · rw [if_pos h1, if_pos trivial, if_pos (by left; omega)]
  · rw [if_neg h1]
    by_cases h2 : (s.size : Int) > 23
    · rw [if_pos h2, if_pos trivial, if_pos (by right; left; omega)]
    · rw [if_neg h2, ByteArray.toList_eq]
      by_cases h3 : s.data.toList = [46]
      · rw [if_pos h3, if_pos trivial, if_pos (by right; right; left; exact h3)]
      · rw [if_neg h3]
        by_cases h4 : s.data.toList = [46, 46]
        · rw [h4, if_pos (by rfl), if_pos (by right; right; right; rfl)]
        · rw [if_neg (by simpa using h4), if_neg (by rintro (h | h | h | h) <;> first | omega | exact h3 h | exact h4 h), refCheck_l s (by omega) s.size k 0 (by omega) (by omega) (by omega) (by omega)]
          simp
end Go.Proofs.Ytbelfaoolnijiaa.Pure
