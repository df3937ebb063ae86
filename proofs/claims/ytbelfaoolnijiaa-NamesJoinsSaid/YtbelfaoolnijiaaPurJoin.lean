import Derived.Test.YtbelfaoolnijiaaPurSplit
import Derived.Test.YtbelfaoolnijiaaPAx20
namespace Go.Proofs.Ytbelfaoolnijiaa.Pure
open Go.RowKit Go.Proofs.Ytbelfaoolnijiaa Go.Proofs.Ytbelfaoolnijiaa.PA Go.Proofs.YtbelfaoolnijiaaW.PrintWords Go.Proofs.YtbelfaoolnijiaaW.PrintLast Go.Proofs.YtbelfaoolnijiaaW.PrintMore
theorem cat_snoc (xs : List (List UInt8)) (x : List UInt8) : catL (xs ++ [x]) = catL xs ++ 47 :: x := by
  induction xs with
  | nil => simp [catL]
  | cons y ys ih => rw [List.cons_append, catL, ih, catL]; simp
theorem cat_len {l : List ByteArray} (h : ∀ x ∈ l, checkV x = 0) : (catL (l.map (·.data.toList))).length ≤ 24 * l.length := by
  induction l with
  | nil => simp [catL]
  | cons y ys ih =>
    have i1 := ih (fun z hz => h z (by simp [hz]))
    have i2 := (fine_of (h y (by simp))).2.1
    rw [ba_size] at i2
    rw [List.map_cons, catL]; simp at i1 i2 ⊢; omega
theorem refJoin_l (l : List ByteArray) (hl : l.length ≤ 16) (hg : goodB l = true) (d : Nat) : ∀ (k : Nat) (acc : ByteArray) (i : Nat), i ≤ l.length → l.length - i = d → d + 1 ≤ k → acc.data.toList = catL ((l.take i).map (·.data.toList)) →
    ∃ r, annexref3_Join.l0 k l acc i = some (r, 0) ∧ r.data.toList = catL (l.map (·.data.toList)) := by
  induction d with
  | zero =>
    intro k acc i h1 hd hk ha
    obtain ⟨k, rfl⟩ : ∃ m, k = m + 1 := ⟨k - 1, by omega⟩
    simp only [annexref3_Join.l0]
    rw [if_neg (by omega)]
    exact ⟨acc, rfl, by rw [ha, List.take_of_length_le (by omega)]⟩
  | succ d ih =>
    intro k acc i h1 hd hk ha
    obtain ⟨k, rfl⟩ : ∃ m, k = m + 1 := ⟨k - 1, by omega⟩
    have hlt : i < l.length := by omega
    have hw : wrap64 ((i : Int) + 1) = ((i + 1 : Nat) : Int) := by unfold wrap64; omega
    have hr : rdOf ByteArray.empty l (i : Int) = l[i] := by simp [rdOf, List.getD, List.getElem?_eq_getElem hlt]
    have hx := fine_of (good_iff.1 hg _ (List.getElem_mem hlt))
    have hacc := cat_len (l := l.take i) (good_iff.1 (good_take hg i))
    rw [← ha, ← ba_size] at hacc
    have hti : (l.take i).length ≤ 16 := by simp; omega
    simp only [annexref3_Join.l0]
    rw [if_pos (by omega), if_pos (by omega), if_pos (by omega), hr]
    have hsz : (acc ++ (⟨#[47]⟩ : ByteArray)).size = acc.size + 1 := by rw [ByteArray.size_append]; rfl
    rw [if_pos (by rw [hsz]; omega), hw]
    exact ih k _ (i + 1) (by omega) (by omega) (by omega) (by rw [List.take_succ_eq_append_getElem hlt, List.map_append, List.map_cons, List.map_nil, cat_snoc, ← ha]; simp)
theorem refJoin_f (l : List ByteArray) (k : Nat) (hk : 60 ≤ k) : annexref3_Join.f k l = names_Join.f l := by
  simp only [annexref3_Join.f, names_Join.f]
  rw [refJudge_f l k hk]
  simp only [Option.bind_some]
  by_cases h : 16 < l.length
  · rw [if_pos h, if_pos h, if_neg (by decide)]
  · rw [if_neg h, if_neg h]
    by_cases hg : goodB l = true
    · rw [if_pos hg, if_pos hg, if_pos rfl]
      cases l with
      | nil => rw [if_pos (by simp), joinS_slash]
      | cons x xs =>
        rw [if_neg (by simp; omega)]
        obtain ⟨r, h1, h2⟩ := refJoin_l (x :: xs) (by omega) hg (x :: xs).length k ⟨#[]⟩ 0 (by omega) (by omega) (by omega) (by simp [catL])
        have h1' : annexref3_Join.l0 k (x :: xs) ⟨#[]⟩ 0 = some (r, 0) := h1
        rw [h1']
        have : r = joinS (x :: xs) := ba_ext (by rw [h2, joinS_cons])
        rw [this]
    · rw [if_neg hg, if_neg hg, if_neg (by decide)]
end Go.Proofs.Ytbelfaoolnijiaa.Pure
