import Derived.Test.YtbelfaoolnijiaaPurRef
import Derived.Test.YtbelfaoolnijiaaPAx17
namespace Go.Proofs.Ytbelfaoolnijiaa.Pure
open Go.RowKit Go.Proofs.Ytbelfaoolnijiaa Go.Proofs.Ytbelfaoolnijiaa.PA Go.Proofs.YtbelfaoolnijiaaW.PrintWords Go.Proofs.YtbelfaoolnijiaaW.PrintLast Go.Proofs.YtbelfaoolnijiaaW.PrintMore
theorem refJudge_l (l : List ByteArray) (hl : l.length ≤ 16) (d : Nat) : ∀ (k : Nat) (i : Int), 0 ≤ i → i ≤ l.length → l.length - i = d → d + 40 ≤ k → annexref3_judge.l0 k l i = some (if goodB (l.drop i.toNat) then 0 else 31) := by
  induction d with
  | zero =>
    intro k i h0 h1 hd hk
    obtain ⟨k, rfl⟩ : ∃ m, k = m + 1 := ⟨k - 1, by omega⟩
    simp only [annexref3_judge.l0]
    rw [if_neg (by omega), List.drop_of_length_le (by omega)]; rfl
  | succ d ih =>
    intro k i h0 h1 hd hk
    obtain ⟨k, rfl⟩ : ∃ m, k = m + 1 := ⟨k - 1, by omega⟩
    have hw : wrap64 (i + 1) = i + 1 := by unfold wrap64; omega
    have hlt : i.toNat < l.length := by omega
    simp only [annexref3_judge.l0]
    rw [if_pos (by omega), if_pos h0, refCheck_f _ k (by omega)]
    simp only [Option.bind_some, hw]
    have hr : rdOf ByteArray.empty l i = l[i.toNat]'hlt := by simp [rdOf, List.getD, List.getElem?_eq_getElem hlt]
    have hg : goodB (l.drop i.toNat) = ((checkV (l[i.toNat]'hlt) == 0) && goodB (l.drop (i + 1).toNat)) := by
      rw [show (i + 1).toNat = i.toNat + 1 by omega, List.drop_eq_getElem_cons hlt]; rfl
    rw [hr, hg]
    by_cases hc : checkV (l[i.toNat]'hlt) = 0
    · rw [if_pos hc, ih k (i + 1) (by omega) (by omega) (by omega) (by omega), hc]; simp
    · rw [if_neg hc]
      rcases checkV_01 (l[i.toNat]'hlt) with e | e
      · exact absurd e hc
      · rw [e]; simp
theorem refJudge_f (l : List ByteArray) (k : Nat) (hk : 60 ≤ k) : annexref3_judge.f k l = some (if 16 < l.length then 33 else if goodB l then 0 else 31) := by
  simp only [annexref3_judge.f]
  by_cases h : 16 < l.length
  · rw [if_pos (by omega), if_pos h]
  · rw [if_neg (by omega), if_neg h, refJudge_l l (by omega) l.length k 0 (by omega) (by omega) (by omega) (by omega)]; simp
/-- What the document's parts lays from here on: from where the part began, and where it looks. -/
def segs (p : List UInt8) (from_ i : Nat) : List (List UInt8) := if i ≤ p.length then ((p.take i).drop from_ ++ (p.drop i).takeWhile (· ≠ 47)) :: partsL ((p.drop i).dropWhile (· ≠ 47)) else []
theorem segs_slash (p : List UInt8) (f i : Nat) (hi : i < p.length) (h : p[i] = 47) : segs p f i = (p.take i).drop f :: segs p (i + 1) (i + 1) := by
  have hd : p.drop i = 47 :: p.drop (i + 1) := by rw [List.drop_eq_getElem_cons hi, h]
  unfold segs
  rw [if_pos (by omega), if_pos (by omega), hd, List.takeWhile_cons_of_neg (by simp), List.dropWhile_cons_of_neg (by simp), partsL]
  have : (p.take (i + 1)).drop (i + 1) = [] := List.drop_of_length_le (by simp; omega)
  rw [this]; simp
theorem segs_next (p : List UInt8) (f i : Nat) (hf : f ≤ i) (hi : i < p.length) (h : p[i] ≠ 47) : segs p f i = segs p f (i + 1) := by
  have hd : p.drop i = p[i] :: p.drop (i + 1) := List.drop_eq_getElem_cons hi
  unfold segs
  rw [if_pos (by omega), if_pos (by omega), hd, List.takeWhile_cons_of_pos (by simpa using h), List.dropWhile_cons_of_pos (by simpa using h), List.take_succ_eq_append_getElem hi, List.drop_append_of_le_length (by simp; omega)]
  simp
theorem segs_end (p : List UInt8) (f : Nat) : segs p f p.length = [p.drop f] := by
  unfold segs
  rw [if_pos (Nat.le_refl _), List.drop_of_length_le (Nat.le_refl _), List.take_length]
  simp [partsL]
theorem extract_list (p : ByteArray) (f i : Nat) : (p.extract f i).data.toList = (p.data.toList.take i).drop f := by
  simp [ByteArray.data_extract, List.take_drop, Array.toList_extract, List.extract_eq_take_drop]
  by_cases h : f ≤ i
  · rw [show f + (i - f) = i by omega]
  · rw [show i - f = 0 by omega]
    rw [List.drop_of_length_le (by simp; omega), List.drop_of_length_le (by simp; omega)]
theorem refParts_l (p : ByteArray) (hs : p.size < 1000000000000) (d : Nat) : ∀ (k : Nat) (acc : List ByteArray) (f i : Nat), f ≤ i → i ≤ p.size + 1 → p.size + 1 - i = d → (i = p.size + 1 → True) → f ≤ p.size + 1 → acc.length ≤ i → d + 2 ≤ k →
    ∃ r, annexref3_parts.l0 k p acc f i = some r ∧ r.map (·.data.toList) = acc.map (·.data.toList) ++ segs p.data.toList f i := by
  have hp := ba_size p
  induction d with
  | zero =>
    intro k acc f i hf h1 hd _ _ _ hk
    obtain ⟨k, rfl⟩ : ∃ m, k = m + 1 := ⟨k - 1, by omega⟩
    simp only [annexref3_parts.l0]
    rw [if_neg (by omega)]
    refine ⟨acc, rfl, ?_⟩
    unfold segs
    rw [if_neg (by omega)]; simp
  | succ d ih =>
    intro k acc f i hf h1 hd _ hf2 ha hk
    obtain ⟨k, rfl⟩ : ∃ m, k = m + 1 := ⟨k - 1, by omega⟩
    have hw : wrap64 ((i : Int) + 1) = ((i + 1 : Nat) : Int) := by unfold wrap64; omega
    simp only [annexref3_parts.l0]
    rw [if_pos (by omega)]
    have put : ∃ r, annexref3_parts.l0 k p (acc ++ [p.extract ((f : Nat) : Int).toNat ((i : Nat) : Int).toNat]) (wrap64 ((i : Int) + 1)) (wrap64 ((i : Int) + 1)) = some r ∧ r.map (·.data.toList) = acc.map (·.data.toList) ++ ((p.data.toList.take i).drop f :: segs p.data.toList (i + 1) (i + 1)) := by
      obtain ⟨r, h1, h2⟩ := ih k (acc ++ [p.extract f i]) (i + 1) (i + 1) (Nat.le_refl _) (by omega) (by omega) (fun _ => trivial) (by omega) (by simp; omega) (by omega)
      refine ⟨r, by rw [hw]; exact h1, ?_⟩
      rw [h2, List.map_append, List.map_cons, List.map_nil, extract_list, List.append_assoc]; rfl
    by_cases he : (i : Int) = (p.size : Int)
    · rw [if_pos he, if_pos (by omega), if_pos (by omega), if_pos (by omega)]
      obtain ⟨r, h1, h2⟩ := put
      refine ⟨r, h1, ?_⟩
      have hi : i = p.data.toList.length := by omega
      rw [h2, hi, segs_end, List.take_length]
      unfold segs
      rw [if_neg (by omega)]
    · rw [if_neg he, if_pos (by omega), if_pos (by omega)]
      have hlt : i < p.size := by omega
      have hb : bt p i = ((p[i]'hlt).toNat : Int) := (bt_at p i hlt).symm
      have hg : p.data.toList[i]'(by omega) = p[i]'hlt := by simp; rfl
      by_cases hc : bt p (i : Int) = 47
      · rw [if_pos hc, if_pos (by omega), if_pos (by omega), if_pos (by omega)]
        obtain ⟨r, h1, h2⟩ := put
        refine ⟨r, h1, ?_⟩
        have hx : p.data.toList[i]'(by omega) = 47 := by rw [hg]; exact UInt8.toNat_inj.1 (by show _ = 47; omega)
        rw [h2, segs_slash _ f i (by omega) hx]
      · rw [if_neg hc, hw]
        obtain ⟨r, h1, h2⟩ := ih k acc f (i + 1) (by omega) (by omega) (by omega) (fun _ => trivial) (by omega) (by omega) (by omega)
        refine ⟨r, h1, ?_⟩
        have hx : p.data.toList[i]'(by omega) ≠ 47 := by
          rw [hg]; intro e; apply hc; rw [hb, e]; rfl
        rw [h2, ← segs_next _ f i hf (by omega) hx]
theorem refParts_f (p : ByteArray) (h0 : 0 < p.size) (h47 : p.data.toList.head? = some 47) (hs : p.size < 1000000000000) (k : Nat) (hk : p.size + 5 ≤ k) : annexref3_parts.f k p = some (partsB p) := by
  have hp := ba_size p
  obtain ⟨r, h1, h2⟩ := refParts_l p hs p.size k [] 1 1 (Nat.le_refl _) (by omega) (by omega) (fun _ => trivial) (by omega) (by simp) (by omega)
  simp only [annexref3_parts.f]
  have h1' : annexref3_parts.l0 k p [] 1 1 = some r := h1
  rw [h1']
  congr 1
  apply partsB_of
  rw [h2]
  cases hd : p.data.toList with
  | nil => rw [hd] at h47; cases h47
  | cons c t =>
    have hc : c = 47 := by rw [hd] at h47; simpa using h47
    subst hc
    unfold segs
    rw [if_pos (by simp), partsL]
    simp
theorem refSplit_f (p : ByteArray) (hs : p.size < 1000000000000) (k : Nat) (hk : p.size + 100 ≤ k) : annexref3_Split.f k p = names_Split.f p := by
  obtain ⟨k, rfl⟩ : ∃ m, k = m + 1 := ⟨k - 1, by omega⟩
  have hp := ba_size p
  simp only [annexref3_Split.f, annexref3_Split.j0, names_Split.f, ByteArray.toList_eq]
  cases hd : p.data.toList with
  | nil => simp
  | cons c t =>
    have hl : 0 < p.size := by rw [hp, hd]; simp
    have hc : bt p 0 = (c.toNat : Int) := by
      rw [← bt_at p 0 (by simpa using hl)]
      have : p[0]'hl = c := by
        have h1 : p.data.toList[0]? = some c := by rw [hd]; rfl
        have h2 : p.data[0]? = some c := by simpa using h1
        obtain ⟨_, h3⟩ := Array.getElem?_eq_some_iff.1 h2
        exact h3
      simp [this]
    rw [if_neg (by simp), if_pos (by omega), hc]
    by_cases h47 : c = 47
    · subst h47
      have hb : (((47 : UInt8).toNat : Int) != 47) = false := rfl
      have hh : ¬ ((47 :: t : List UInt8).head? ≠ some 47) := by simp
      rw [hb, if_neg (show ¬ (false = true) by decide), if_neg hh]
      by_cases ht : (47 : UInt8) :: t = [47]
      · rw [if_pos ht, if_pos ht]
      · rw [if_neg ht, if_neg ht, refParts_f p hl (by rw [hd]; rfl) hs k (by omega)]
        simp only [Option.bind_some]
        rw [refJudge_f _ k (by omega)]
        simp only [Option.bind_some, splitV, fault_good]
        by_cases h16 : 16 < (partsB p).length
        · simp [h16]
        · by_cases hg : goodB (partsB p) = true
          · simp [h16, hg]
          · simp [h16, hg]
    · have hb : ((c.toNat : Int) != 47) = true := by
        rw [bne_iff_ne]; intro e; exact h47 (UInt8.toNat_inj.1 (by show _ = 47; omega))
      rw [hb, if_pos rfl, if_pos (by simpa using h47)]
end Go.Proofs.Ytbelfaoolnijiaa.Pure
