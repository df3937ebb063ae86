import Derived.Test.YtbelfaoolnijiaaSpl
namespace Go.Proofs.Ytbelfaoolnijiaa
open Go.RowKit Go.Proofs.YtbelfaoolnijiaaW.PrintWords

/-- A '/' ahead of each. -/
def catL : List (List UInt8) → List UInt8
  | [] => []
  | x :: xs => 47 :: x ++ catL xs
theorem catL_join (x : List UInt8) (xs : List (List UInt8)) : catL (x :: xs) = 47 :: Lib.join (x :: xs) [47] := by
  unfold Lib.join
  induction xs generalizing x with
  | nil => simp [catL]
  | cons y ys ih => rw [catL, ih y, List.intercalate_cons_cons]; simp
theorem catL_head (xs : List (List UInt8)) : catL xs = [] ∨ ∃ r, catL xs = 47 :: r := by
  cases xs with
  | nil => exact .inl rfl
  | cons x xs => exact .inr ⟨_, rfl⟩
theorem span_cat {x r : List UInt8} (hx : ∀ c ∈ x, c ≠ 47) (hr : r = [] ∨ ∃ q, r = 47 :: q) : (x ++ r).takeWhile (· ≠ 47) = x ∧ (x ++ r).dropWhile (· ≠ 47) = r := by
  induction x with
  | nil =>
    rcases hr with rfl | ⟨q, rfl⟩
    · simp
    · simp
  | cons c x ih =>
    have hc : c ≠ 47 := hx c (by simp)
    obtain ⟨h1, h2⟩ := ih (fun d hd => hx d (by simp [hd]))
    rw [List.cons_append]
    refine ⟨?_, ?_⟩
    · rw [List.takeWhile_cons_of_pos (by simpa using hc), h1]
    · rw [List.dropWhile_cons_of_pos (by simpa using hc), h2]
theorem parts_cat (xs : List (List UInt8)) (h : ∀ x ∈ xs, ∀ c ∈ x, c ≠ 47) : partsL (catL xs) = xs := by
  induction xs with
  | nil => simp [catL, partsL]
  | cons x xs ih =>
    obtain ⟨h1, h2⟩ := span_cat (h x (by simp)) (catL_head xs)
    rw [catL, List.cons_append, partsL, h1, h2, ih (fun y hy => h y (by simp [hy]))]
theorem drop_head (t : List UInt8) : t.dropWhile (· ≠ 47) = [] ∨ ∃ r, t.dropWhile (· ≠ 47) = 47 :: r := by
  induction t with
  | nil => simp
  | cons c t ih =>
    by_cases h : c = 47
    · subst h; right; exact ⟨t, by simp⟩
    · rw [List.dropWhile_cons_of_pos (by simpa using h)]; exact ih
theorem cat_parts (n : Nat) : ∀ p : List UInt8, p.length ≤ n → (p = [] ∨ ∃ r, p = 47 :: r) → catL (partsL p) = p := by
  induction n with
  | zero => intro p hp h; have : p = [] := List.length_eq_zero_iff.1 (by omega); subst this; simp [partsL, catL]
  | succ n ih =>
    intro p hp h
    rcases h with rfl | ⟨t, rfl⟩
    · simp [partsL, catL]
    · have hl := (List.dropWhile_sublist (l := t) (· ≠ 47)).length_le
      rw [partsL, catL, ih _ (by simp at hp ⊢; simp at hl; omega) (drop_head t), List.cons_append, List.takeWhile_append_dropWhile]
theorem fine_of {s : ByteArray} (h : checkV s = 0) : 1 ≤ s.size ∧ s.size ≤ 23 ∧ ∀ c ∈ s.data.toList, c ≠ 47 := by
  unfold checkV at h
  split at h
  · cases h
  · split at h
    · rename_i h1 h2
      refine ⟨by omega, by omega, fun c hc => ?_⟩
      have := List.all_eq_true.1 h2 c hc
      simp [fineB] at this
      exact this.1
    · cases h
theorem good_iff {l : List ByteArray} : goodB l = true ↔ ∀ x ∈ l, checkV x = 0 := by simp [goodB]
theorem fault_good {l : List ByteArray} : faultOf l = if goodB l then 0 else 31 := rfl
theorem joinS_nil : (joinS []).data.toList = [47] := by
  simp [joinS, Lib.join, List.intercalate]
theorem joinS_cons (x : ByteArray) (xs : List ByteArray) : (joinS (x :: xs)).data.toList = catL ((x :: xs).map (·.data.toList)) := by
  rw [List.map_cons, catL_join]; simp [joinS]
theorem ba_ext {a b : ByteArray} (h : a.data.toList = b.data.toList) : a = b := ByteArray.ext (Array.toList_inj.1 h)
theorem ba_size (a : ByteArray) : a.size = a.data.toList.length := by simp [← ByteArray.size_data]
theorem joinS_slash : joinS [] = ⟨#[47]⟩ := ba_ext (by rw [joinS_nil])

/-- Split of Join is the list. -/
theorem split_join {l : List ByteArray} (hl : l.length ≤ 16) (hg : goodB l = true) : names_Split.f (joinS l) = some (l, 0) := by
  cases l with
  | nil => simp [names_Split.f, joinS_nil]
  | cons x xs =>
    have hx := fine_of (good_iff.1 hg x (by simp))
    have hp : partsB (joinS (x :: xs)) = x :: xs := by
      refine (partsB_of ?_).symm
      rw [joinS_cons, parts_cat]
      intro y hy
      obtain ⟨z, hz, rfl⟩ := List.mem_map.1 hy
      exact (fine_of (good_iff.1 hg z hz)).2.2
    have h1 : (joinS (x :: xs)).data.toList.head? = some 47 := by rw [joinS_cons]; rfl
    have h2 : (joinS (x :: xs)).data.toList ≠ [47] := by
      rw [joinS_cons, List.map_cons, catL]
      intro e
      have := congrArg List.length e
      have hs : 1 ≤ x.data.toList.length := by rw [← ba_size]; exact hx.1
      simp only [List.length_cons, List.length_append, List.length_nil] at this; omega
    simp only [names_Split.f, h1, h2, splitV, hp, fault_good, hg, if_true, ne_eq, not_true, if_false]
    rw [if_neg (show ¬ 16 < (x :: xs).length by omega)]
/-- What Split has answered. -/
theorem split_ok {p : ByteArray} {l : List ByteArray} (h : names_Split.f p = some (l, 0)) : l.length ≤ 16 ∧ goodB l = true ∧ joinS l = p := by
  unfold names_Split.f at h
  have h := Option.some.inj h
  split at h
  · cases h
  · rename_i h1
    split at h
    · rename_i h2
      obtain ⟨rfl, _⟩ := Prod.mk.inj h
      exact ⟨by simp, rfl, ba_ext (by rw [joinS_nil, h2])⟩
    · rename_i h2
      unfold splitV at h
      split at h
      · cases h
      · split at h
        · rename_i h3 h4
          obtain ⟨rfl, _⟩ := Prod.mk.inj h
          have hg : goodB (partsB p) = true := by
            rw [fault_good] at h4; split at h4
            · assumption
            · cases h4
          refine ⟨by omega, hg, ba_ext ?_⟩
          cases hd : p.data.toList with
          | nil => rw [hd] at h1; simp at h1
          | cons c t =>
            have hc : c = 47 := by rw [hd] at h1; simpa using h1
            subst hc
            have hm : (partsB p).map (·.data.toList) = partsL p.data.toList := by simp [partsB, Function.comp_def]
            cases hb : partsB p with
            | nil =>
              have : partsL p.data.toList = [] := by rw [← hm, hb]; rfl
              rw [hd, partsL] at this; cases this
            | cons y ys =>
              rw [joinS_cons, ← hb, hm, cat_parts _ _ (Nat.le_refl _) (.inr ⟨t, hd⟩), hd]
        · cases h
theorem split_cases (p : ByteArray) : (∃ l, names_Split.f p = some (l, 0)) ∨ ∃ e, names_Split.f p = some ([], e) ∧ (e = 31 ∨ e = 32 ∨ e = 33) := by
  unfold names_Split.f
  split
  · exact .inr ⟨32, rfl, by simp⟩
  · split
    · exact .inl ⟨[], rfl⟩
    · unfold splitV
      split
      · exact .inr ⟨33, rfl, by simp⟩
      · split
        · exact .inl ⟨_, rfl⟩
        · exact .inr ⟨31, rfl, by simp⟩
theorem join_ok {l : List ByteArray} (hl : l.length ≤ 16) (hg : goodB l = true) : names_Join.f l = some (joinS l, 0) := by
  simp only [names_Join.f, hg, if_true]; rw [if_neg (by omega)]
theorem joinS_size {l : List ByteArray} (hl : l.length ≤ 16) (hg : goodB l = true) : (joinS l).size ≤ 384 := by
  have h := len_inter (l.map (·.data.toList)) (fun x hx => by
    obtain ⟨z, hz, rfl⟩ := List.mem_map.1 hx
    have := (fine_of (good_iff.1 hg z hz)).2.1
    rw [ba_size] at this; exact this)
  cases l with
  | nil => rw [joinS_slash]; decide
  | cons x xs =>
    have : (joinS (x :: xs)).size = 1 + (Lib.join ((x :: xs).map (·.data.toList)) [47]).length := by simp [ba_size, joinS]; omega
    rw [this]
    -- a name less one separator
    have h2 : (Lib.join ((x :: xs).map (·.data.toList)) [47]).length + 1 = (catL ((x :: xs).map (·.data.toList))).length := by
      rw [List.map_cons, catL_join]; simp
    have h3 : ∀ ys : List ByteArray, (∀ y ∈ ys, checkV y = 0) → (catL (ys.map (·.data.toList))).length ≤ 24 * ys.length := by
      intro ys
      induction ys with
      | nil => intro _; simp [catL]
      | cons y ys ih =>
        intro hy
        have i1 := ih (fun z hz => hy z (by simp [hz]))
        have i2 := (fine_of (hy y (by simp))).2.1
        rw [ba_size] at i2
        rw [List.map_cons, catL]; simp at i1 i2 ⊢; omega
    have h4 := h3 (x :: xs) (good_iff.1 hg)
    simp only [List.length_cons] at h4 hl
    omega
theorem good_snoc (l : List ByteArray) (x : ByteArray) : goodB (l ++ [x]) = (goodB l && (checkV x == 0)) := by simp [goodB]
theorem good_take {l : List ByteArray} (h : goodB l = true) (n : Nat) : goodB (l.take n) = true := good_iff.2 fun x hx => good_iff.1 h x (List.mem_of_mem_take hx)
end Go.Proofs.Ytbelfaoolnijiaa
