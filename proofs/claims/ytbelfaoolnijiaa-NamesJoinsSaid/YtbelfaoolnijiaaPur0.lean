import Derived.Test.YtbelfaoolnijiaaCore
import Derived.Test.YtbelfaoolnijiaaPAx12
namespace Go.Proofs.Ytbelfaoolnijiaa.Pure
open Go.RowKit Go.Proofs.Ytbelfaoolnijiaa Go.Proofs.Ytbelfaoolnijiaa.PA Go.Proofs.YtbelfaoolnijiaaW.PrintWords Go.Proofs.YtbelfaoolnijiaaW.PrintLast Go.Proofs.YtbelfaoolnijiaaW.PrintMore
theorem checkV_eq (s : ByteArray) : checkV s = if s.data.toList.length < 1 ∨ 23 < s.data.toList.length ∨ s.data.toList = [46] ∨ s.data.toList = [46, 46] then 31 else if s.data.toList.all fineB then 0 else 31 := by
  rw [← ba_size]; simp only [checkV, ByteArray.toList_eq]
theorem num_f (a : Int) : annexlaw3_num.f a = some a := rfl
theorem check_f (s : ByteArray) : names_Check.f s = some (checkV s) := rfl
theorem same_l (xs ys : List ByteArray) (he : xs.length = ys.length) (hl : xs.length < 1000000000000000) : ∀ (d k : Nat) (i : Int), 0 ≤ i → i ≤ xs.length → xs.length - i = d → d + 1 ≤ k →
    annexref_SameTexts.l0 k xs ys i = some (decide (xs.drop i.toNat = ys.drop i.toNat)) := by
  intro d
  induction d with
  | zero =>
    intro k i h0 h1 hd hk
    obtain ⟨k, rfl⟩ : ∃ m, k = m + 1 := ⟨k - 1, by omega⟩
    simp only [annexref_SameTexts.l0]
    rw [if_neg (by omega), List.drop_of_length_le (by omega), List.drop_of_length_le (by omega)]
    simp
  | succ d ih =>
    intro k i h0 h1 hd hk
    obtain ⟨k, rfl⟩ : ∃ m, k = m + 1 := ⟨k - 1, by omega⟩
    have hw : wrap64 (i + 1) = i + 1 := by unfold wrap64; omega
    simp only [annexref_SameTexts.l0]
    rw [if_pos (by omega), if_pos h0, if_pos (by omega), hw]
    have hx : xs.drop i.toNat = rdOf ByteArray.empty xs i :: xs.drop (i + 1).toNat := by
      rw [show (i + 1).toNat = i.toNat + 1 by omega, List.drop_eq_getElem_cons (by omega)]; simp [rdOf, List.getD, List.getElem?_eq_getElem (show i.toNat < xs.length by omega)]
    have hy : ys.drop i.toNat = rdOf ByteArray.empty ys i :: ys.drop (i + 1).toNat := by
      rw [show (i + 1).toNat = i.toNat + 1 by omega, List.drop_eq_getElem_cons (by omega)]; simp [rdOf, List.getD, List.getElem?_eq_getElem (show i.toNat < ys.length by omega)]
    by_cases hc : (rdOf ByteArray.empty xs i).toList = (rdOf ByteArray.empty ys i).toList
    · rw [if_pos hc, ih k (i + 1) (by omega) (by omega) (by omega) (by omega), hx, hy]
      have : rdOf ByteArray.empty xs i = rdOf ByteArray.empty ys i := ba_ext (by simpa [ByteArray.toList_eq] using hc)
      simp [this]
    · rw [if_neg hc, hx, hy]
      have : rdOf ByteArray.empty xs i ≠ rdOf ByteArray.empty ys i := fun e => hc (by rw [e])
      simp [this]
theorem same_f (xs ys : List ByteArray) (k : Nat) (hk : xs.length + 1 ≤ k) (hl : xs.length < 1000000000000000) : annexref_SameTexts.f k xs ys = some (decide (xs = ys)) := by
  unfold annexref_SameTexts.f
  by_cases he : xs.length = ys.length
  · rw [if_pos (by omega), same_l xs ys he hl xs.length k 0 (by omega) (by omega) (by omega) hk]; simp
  · rw [if_neg (by omega)]
    have : xs ≠ ys := fun e => he (by rw [e])
    simp [this]
theorem first_f (k : Nat) (hk : 5 ≤ k) : annexlaw3_first.f k = some true := by
  have ea : checkV ⟨#[97, 32, 98]⟩ = 0 := by rw [checkV_eq]; decide
  have eb : checkV ⟨#[97, 47, 98]⟩ = 31 := by rw [checkV_eq]; decide
  have e1 : checkV ⟨#[97]⟩ = 0 := by rw [checkV_eq]; decide
  have e2 : checkV ⟨#[98]⟩ = 0 := by rw [checkV_eq]; decide
  have e3 : checkV ⟨#[120]⟩ = 0 := by rw [checkV_eq]; decide
  have e4 : checkV ⟨#[121]⟩ = 0 := by rw [checkV_eq]; decide
  have j1 : joinS [⟨#[97]⟩, ⟨#[98]⟩] = ⟨#[47, 97, 47, 98]⟩ := ba_ext (by rw [joinS_cons]; rfl)
  have hs : names_Split.f ⟨#[47, 97, 47, 98]⟩ = some ([⟨#[97]⟩, ⟨#[98]⟩], 0) := by
    rw [← j1]; exact split_join (by decide) (by simp [goodB, e1, e2])
  have hj : names_Join.f [⟨#[120]⟩, ⟨#[121]⟩] = some (joinS [⟨#[120]⟩, ⟨#[121]⟩], 0) := join_ok (by decide) (by simp [goodB, e3, e4])
  have hjl : (joinS [⟨#[120]⟩, ⟨#[121]⟩]).toList = [47, 120, 47, 121] := by rw [ByteArray.toList_eq, joinS_cons]; rfl
  simp only [annexlaw3_first.f, check_f, ea, eb, hs, hj, Option.bind_some]
  rw [same_f _ _ k (by simp; omega) (by simp)]
  simp only [Option.bind_some, num_f, decide_true, if_true, hjl]
  rfl
theorem split_one {s : ByteArray} (hn : ∀ c ∈ s.data.toList, c ≠ 47) (hs : s.data.toList ≠ []) (h : checkV s ≠ 0) : names_Split.f (⟨#[47]⟩ ++ s) = some ([], 31) := by
  have hd : ((⟨#[47]⟩ : ByteArray) ++ s).data.toList = catL [s.data.toList] := by simp [catL]
  have hp : partsB (⟨#[47]⟩ ++ s) = [s] := by
    refine (partsB_of ?_).symm
    rw [hd, parts_cat _ (by simpa using hn)]; rfl
  have h1 : ((⟨#[47]⟩ : ByteArray) ++ s).data.toList.head? = some 47 := by rw [hd]; rfl
  have h2 : ((⟨#[47]⟩ : ByteArray) ++ s).data.toList ≠ [47] := by rw [hd]; simpa [catL] using hs
  have hf : faultOf [s] = 31 := by simp [faultOf, h]
  simp only [names_Split.f, h1, h2, splitV, hp, hf, ne_eq, not_true, if_false]
  simp
end Go.Proofs.Ytbelfaoolnijiaa.Pure
