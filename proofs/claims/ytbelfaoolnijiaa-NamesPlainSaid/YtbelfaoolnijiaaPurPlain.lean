import Derived.Test.YtbelfaoolnijiaaPur0
import Derived.Test.YtbelfaoolnijiaaPAx23
namespace Go.Proofs.Ytbelfaoolnijiaa.Pure
open Go.RowKit Go.Proofs.Ytbelfaoolnijiaa Go.Proofs.Ytbelfaoolnijiaa.PA Go.Proofs.YtbelfaoolnijiaaW.PrintWords Go.Proofs.YtbelfaoolnijiaaW.PrintLast Go.Proofs.YtbelfaoolnijiaaW.PrintMore
theorem plain_j2 (s : ByteArray) (k : Nat) (hs : s.size ≤ 140737488351232) (hf : s.data.toList.all fineB = true) (x7 : Bool) (h7 : x7 = (checkV s == 0)) : annexlaw3_NamesPlain.j2 (k + 1) s (checkV s) x7 = some true := by
  have h47 : ∀ c ∈ s.data.toList, c ≠ 47 := fun c hc => by have := List.all_eq_true.1 hf c hc; simp [fineB] at this; exact this.1
  subst h7
  simp only [annexlaw3_NamesPlain.j2, num_f, Option.bind_some, bne_self_eq_false, Bool.false_eq_true, if_false]
  rw [if_pos (by omega)]
  by_cases h : checkV s = 0
  · have hj : joinS [s] = ⟨#[47]⟩ ++ s := ba_ext (by rw [joinS_cons]; simp [catL])
    rw [← hj, split_join (by simp) (by simp [goodB, h])]
    simp [h, rdOf]
  · by_cases he : s.data.toList = []
    · have hj : joinS [] = ⟨#[47]⟩ ++ s := ba_ext (by rw [joinS_nil]; simp [he])
      rw [← hj, split_join (by simp) rfl]
      simp [h, he, ByteArray.toList_eq]
    · rw [split_one h47 he h]
      simp [h, ByteArray.toList_eq]
      exact fun e => he (by simp [e])
theorem plain_l (s : ByteArray) (hs : s.size ≤ 140737488351232) (d : Nat) : ∀ (k : Nat) (i : Int), 0 ≤ i → i ≤ s.size → s.size - i = d → 2 * d + 5 ≤ k → (s.data.toList.take i.toNat).all fineB = true → annexlaw3_NamesPlain.l0 k s i = some true := by
  induction d with
  | zero =>
    intro k i h0 h1 hd hk hf
    obtain ⟨k, rfl⟩ : ∃ m, k = m + 3 := ⟨k - 3, by omega⟩
    have hsz := ba_size s
    rw [List.take_of_length_le (by omega)] at hf
    simp only [annexlaw3_NamesPlain.l0]
    rw [if_neg (by omega)]
    simp only [check_f, Option.bind_some]
    have hv : checkV s = if s.data.toList.length < 1 ∨ 23 < s.data.toList.length ∨ s.data.toList = [46] ∨ s.data.toList = [46, 46] then 31 else 0 := by rw [checkV_eq, hf]; rfl
    rw [← hsz] at hv
    by_cases a1 : (s.size : Int) ≥ 1
    · rw [if_pos a1]
      by_cases a2 : (s.size : Int) ≤ 23
      · rw [if_pos a2]
        by_cases a3 : s.toList = [46]
        · rw [if_pos a3]
          rw [ByteArray.toList_eq] at a3
          exact plain_j2 s _ hs hf _ (by rw [hv, if_pos (by simp [a3])]; rfl)
        · rw [if_neg a3]
          rw [ByteArray.toList_eq] at a3
          refine plain_j2 s _ hs hf _ ?_
          rw [ByteArray.toList_eq]
          by_cases a4 : s.data.toList = [46, 46]
          · rw [hv, if_pos (by simp [a4])]; simp [a4]
          · rw [hv, if_neg (by rintro (h | h | h | h) <;> first | omega | exact a3 h | exact a4 h)]; simpa using a4
      · rw [if_neg a2]
        exact plain_j2 s _ hs hf _ (by rw [hv, if_pos (by right; left; omega)]; rfl)
    · rw [if_neg a1]
      exact plain_j2 s _ hs hf _ (by rw [hv, if_pos (by left; omega)]; rfl)
  | succ d ih =>
    intro k i h0 h1 hd hk hf
    obtain ⟨k, rfl⟩ : ∃ m, k = m + 2 := ⟨k - 2, by omega⟩
    have hw : wrap64 (i + 1) = i + 1 := by unfold wrap64; omega
    have hlt : i.toNat < s.size := by omega
    have hb : bt s i = ((s[i.toNat]'hlt).toNat : Int) := (bt_at s i hlt).symm
    have hl : i.toNat < s.data.toList.length := by rw [← ba_size]; exact hlt
    have hg : s.data.toList[i.toNat]'hl = s[i.toNat]'hlt := by simp; rfl
    have bad : ∀ c : UInt8, fineB c = false → s[i.toNat]'hlt = c → checkV s = 31 := fun c hc e => by
      rw [checkV_eq]
      have : s.data.toList.all fineB = false := by
        rw [← Bool.not_eq_true]
        intro ha
        have := List.all_eq_true.1 ha _ (List.getElem_mem hl)
        rw [hg, e, hc] at this; cases this
      rw [this]; split <;> rfl
    have go : ∀ x28 : Bool, (x28 = true → checkV s = 31) → (x28 = false → fineB (s[i.toNat]'hlt) = true) → annexlaw3_NamesPlain.j1 (k + 1) s i x28 = some true := by
      intro x h1 h2
      cases x with
      | true => simp [annexlaw3_NamesPlain.j1, check_f, num_f, h1 rfl]
      | false =>
        simp only [annexlaw3_NamesPlain.j1, Bool.false_eq_true, if_false, hw]
        refine ih k (i + 1) (by omega) (by omega) (by omega) (by omega) ?_
        rw [show (i + 1).toNat = i.toNat + 1 by omega, List.take_succ_eq_append_getElem hl, List.all_append, hf, hg, List.all_cons, h2 rfl]; rfl
    simp only [annexlaw3_NamesPlain.l0]
    rw [if_pos (by omega), if_pos h0, hb]
    by_cases c1 : ((s[i.toNat]'hlt).toNat : Int) = 47
    · rw [if_pos c1]
      exact go true (fun _ => bad 47 (by decide) (UInt8.toNat_inj.1 (by show _ = 47; omega))) (fun h => by cases h)
    · rw [if_neg c1]
      refine go _ (fun h => ?_) (fun h => ?_)
      · exact bad 0 (by decide) (UInt8.toNat_inj.1 (by have h := eq_of_beq h; show _ = 0; omega))
      · have n1 : s[i.toNat]'hlt ≠ 47 := fun e => c1 (by rw [e]; rfl)
        have n2 : s[i.toNat]'hlt ≠ 0 := fun e => by rw [e] at h; simp at h
        simp [fineB, n1, n2]
theorem NamesPlain (a0 : ByteArray) (h : a0.size ≤ 140737488351232) : ∃ k, annexlaw3_NamesPlain.f k a0 = some true := by
  refine ⟨2 * a0.size + 10, ?_⟩
  simp only [annexlaw3_NamesPlain.f, first_f _ (show 5 ≤ 2 * a0.size + 10 by omega), Option.bind_some, if_true]
  exact plain_l a0 h a0.size _ 0 (by omega) (by omega) (by omega) (by omega) (by simp)
end Go.Proofs.Ytbelfaoolnijiaa.Pure
