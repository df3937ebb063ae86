import Derived.Test.YtbelfaoolnijiaaPurJoin
import Derived.Test.YtbelfaoolnijiaaPAx35
namespace Go.Proofs.Ytbelfaoolnijiaa.Pure
open Go.RowKit Go.Proofs.Ytbelfaoolnijiaa Go.Proofs.Ytbelfaoolnijiaa.PA Go.Proofs.YtbelfaoolnijiaaW.PrintWords Go.Proofs.YtbelfaoolnijiaaW.PrintLast Go.Proofs.YtbelfaoolnijiaaW.PrintMore
theorem add_good {cur : List ByteArray} (h : cur.length < 16) (hg : goodB cur = true) {x : ByteArray} (hx : checkV x = 0) : names_Add.f (joinS cur) x = some (joinS (cur ++ [x]), 0) := by
  simp only [names_Add.f, split_join (show cur.length ≤ 16 by omega) hg, Option.bind_some, check_f, hx, if_true]
  rw [if_pos (by omega), join_ok (by simp; omega) (by rw [good_snoc, hg, hx]; rfl)]
  rfl
theorem add_full {cur : List ByteArray} (h : cur.length = 16) (hg : goodB cur = true) {x : ByteArray} (hx : checkV x = 0) : names_Add.f (joinS cur) x = some (⟨#[]⟩, 33) := by
  simp only [names_Add.f, split_join (show cur.length ≤ 16 by omega) hg, Option.bind_some, check_f, hx, if_true]
  rw [if_pos (by omega)]
  simp only [names_Join.f]
  rw [if_pos (by simp; omega)]
  rfl
theorem add_bad {cur : List ByteArray} (h : cur.length ≤ 16) (hg : goodB cur = true) {x : ByteArray} (hx : checkV x ≠ 0) : names_Add.f (joinS cur) x = some (⟨#[]⟩, 31) := by
  simp only [names_Add.f, split_join h hg, Option.bind_some, check_f, if_true]
  rw [if_neg hx]
  rcases checkV_01 x with e | e
  · exact absurd e hx
  · rw [e]
theorem add_none {p x : ByteArray} {e : Int} (h : names_Split.f p = some ([], e)) (he : e ≠ 0) : names_Add.f p x = some (⟨#[]⟩, e) := by
  simp only [names_Add.f, h, Option.bind_some]
  rw [if_neg he]
theorem parent_root : names_Parent.f (joinS []) = some (⟨#[]⟩, ⟨#[]⟩, 34) := by
  simp only [names_Parent.f, split_join (l := []) (by simp) rfl, Option.bind_some]
  simp
theorem parent_snoc {cur : List ByteArray} {x : ByteArray} (h : (cur ++ [x]).length ≤ 16) (hg : goodB (cur ++ [x]) = true) : names_Parent.f (joinS (cur ++ [x])) = some (joinS cur, x, 0) := by
  have hl : (cur ++ [x]).length = cur.length + 1 := by simp
  have hw : wrap64 (((cur ++ [x]).length : Int) - 1) = cur.length := by rw [hl]; unfold wrap64; omega
  simp only [names_Parent.f, split_join h hg, Option.bind_some, if_true, hw]
  rw [if_neg (by omega), if_pos (by omega), if_pos (by omega)]
  have ht : (cur ++ [x]).take ((cur.length : Int) : Int).toNat = cur := by simp
  have hr : rdOf ByteArray.empty (cur ++ [x]) (cur.length : Int) = x := by simp [rdOf]
  rw [good_snoc, Bool.and_eq_true] at hg
  rw [ht, hr, join_ok (by omega) hg.1]
  simp only [Option.bind_some]
  rw [if_pos (by omega)]
theorem parent_none {p : ByteArray} {e : Int} (h : names_Split.f p = some ([], e)) (he : e ≠ 0) : names_Parent.f p = some (⟨#[]⟩, ⟨#[]⟩, e) := by
  simp only [names_Parent.f, h, Option.bind_some]
  rw [if_neg he]
theorem rdOf_small {l : List ByteArray} (hs : ∀ s ∈ l, s.size ≤ 1048576) (i : Int) : (rdOf ByteArray.empty l i).size ≤ 1048576 := by
  unfold rdOf
  rw [List.getD_eq_getElem?_getD]
  cases h : l[i.toNat]? with
  | none => simp
  | some x => exact hs x (List.mem_of_getElem? h)
theorem split_len (p : ByteArray) {l : List ByteArray} {e : Int} (h : names_Split.f p = some (l, e)) : l.length ≤ 16 := by
  rcases split_cases p with ⟨m, hp⟩ | ⟨e2, hp, _⟩
  · rw [hp] at h
    obtain ⟨rfl, _⟩ := Prod.mk.inj (Option.some.inj h)
    exact (split_ok hp).1
  · rw [hp] at h
    obtain ⟨rfl, _⟩ := Prod.mk.inj (Option.some.inj h)
    simp
theorem drop_at (l : List ByteArray) (i : Int) (h0 : 0 ≤ i) (h1 : i < l.length) : l.drop i.toNat = rdOf ByteArray.empty l i :: l.drop (i + 1).toNat := by
  rw [show (i + 1).toNat = i.toNat + 1 by omega, List.drop_eq_getElem_cons (by omega)]; simp [rdOf, List.getD, List.getElem?_eq_getElem (show i.toNat < l.length by omega)]
theorem under_l (l m : List ByteArray) (hm : m.length ≤ l.length) (hl : l.length ≤ 16) (d : Nat) : ∀ (k : Nat) (i : Int), 0 ≤ i → i ≤ m.length → m.length - i = d → d + 1 ≤ k →
    names_Under.l0 k l m m.length i = some (decide (m.drop i.toNat <+: l.drop i.toNat)) := by
  induction d with
  | zero =>
    intro k i h0 h1 hd hk
    obtain ⟨k, rfl⟩ : ∃ m, k = m + 1 := ⟨k - 1, by omega⟩
    simp only [names_Under.l0]
    rw [if_neg (by omega), List.drop_of_length_le (by omega : m.length ≤ i.toNat)]
    simp
  | succ d ih =>
    intro k i h0 h1 hd hk
    obtain ⟨k, rfl⟩ : ∃ m, k = m + 1 := ⟨k - 1, by omega⟩
    have hw : wrap64 (i + 1) = i + 1 := by unfold wrap64; omega
    simp only [names_Under.l0]
    rw [if_pos (by omega), if_pos h0, if_pos (by omega), if_pos (by omega), hw, drop_at m i h0 (by omega), drop_at l i h0 (by omega)]
    by_cases hc : (rdOf ByteArray.empty l i).toList = (rdOf ByteArray.empty m i).toList
    · rw [if_pos hc, ih k (i + 1) (by omega) (by omega) (by omega) (by omega)]
      have : rdOf ByteArray.empty m i = rdOf ByteArray.empty l i := ba_ext (by simpa [ByteArray.toList_eq] using hc.symm)
      simp [List.cons_prefix_cons, this]
    · rw [if_neg hc]
      have : rdOf ByteArray.empty m i ≠ rdOf ByteArray.empty l i := fun e => hc (by rw [e])
      simp [List.cons_prefix_cons, this]
theorem under_f {p q : ByteArray} {l m : List ByteArray} (hp : names_Split.f p = some (l, 0)) (hq : names_Split.f q = some (m, 0)) (k : Nat) (hk : 20 ≤ k) : names_Under.f k p q = some (decide (m <+: l)) := by
  have hl := (split_ok hp).1
  obtain ⟨k, rfl⟩ : ∃ m, k = m + 1 := ⟨k - 1, by omega⟩
  simp only [names_Under.f, hp, hq, Option.bind_some, if_true, names_Under.j0]
  by_cases h : m.length > l.length
  · have : (decide ((m.length : Int) > (l.length : Int))) = true := by simp; omega
    rw [this, if_pos rfl]
    have : ¬ m <+: l := fun e => by have := e.length_le; omega
    simp [this]
  · have : (decide ((m.length : Int) > (l.length : Int))) = false := by simp; omega
    rw [this, if_neg (by decide), under_l l m (by omega) hl m.length k 0 (by omega) (by omega) (by omega) (by omega)]
    simp
theorem under_no {p q : ByteArray} {e : Int} (h : (names_Split.f p = some ([], e) ∧ e ≠ 0) ∨ ((∃ l, names_Split.f p = some (l, 0)) ∧ names_Split.f q = some ([], e) ∧ e ≠ 0)) (k : Nat) (hk : 1 ≤ k) : names_Under.f k p q = some false := by
  obtain ⟨k, rfl⟩ : ∃ m, k = m + 1 := ⟨k - 1, by omega⟩
  rcases h with ⟨h, he⟩ | ⟨⟨l, hp⟩, h, he⟩
  · simp only [names_Under.f, h, Option.bind_some]; rw [if_neg he]
  · simp only [names_Under.f, h, hp, Option.bind_some, if_true]; rw [if_neg he]; simp [names_Under.j0]
theorem refAdd_f (p x : ByteArray) (hs : p.size ≤ 1048576) (k : Nat) (hk : 1048800 ≤ k) : annexref3_Add.f k p x = names_Add.f p x := by
  simp only [annexref3_Add.f, names_Add.f, check_f, refSplit_f p (by omega) k (by omega), refCheck_f x k (by omega), refJoin_f _ k (by omega)]
theorem refParent_f (p : ByteArray) (hs : p.size ≤ 1048576) (k : Nat) (hk : 1048800 ≤ k) : annexref3_Parent.f k p = names_Parent.f p := by
  simp only [annexref3_Parent.f, names_Parent.f, refSplit_f p (by omega) k (by omega), refJoin_f _ k (by omega)]
  rcases split_cases p with ⟨l, hp⟩ | ⟨e, hp, he⟩
  · obtain ⟨hl, hg, _⟩ := split_ok hp
    rw [hp]
    simp only [Option.bind_some, if_true]
    have : names_Join.f (l.take (wrap64 ((l.length : Int) - 1)).toNat) = some (joinS (l.take (wrap64 ((l.length : Int) - 1)).toNat), 0) := join_ok (by simp; omega) (good_take hg _)
    rw [this]; rfl
  · rw [hp]
    simp only [Option.bind_some]
    rw [if_neg (by omega), if_neg (by omega)]
theorem refUnder_l (l m : List ByteArray) (hm : m.length ≤ l.length) (hl : l.length ≤ 16) (d : Nat) : ∀ (k : Nat) (i : Int), 0 ≤ i → i ≤ m.length → m.length - i = d → d + 1 ≤ k →
    annexref3_Under.l0 k l m i = some (decide (m.drop i.toNat <+: l.drop i.toNat)) := by
  induction d with
  | zero =>
    intro k i h0 h1 hd hk
    obtain ⟨k, rfl⟩ : ∃ m, k = m + 1 := ⟨k - 1, by omega⟩
    simp only [annexref3_Under.l0]
    rw [if_neg (by omega), List.drop_of_length_le (by omega : m.length ≤ i.toNat)]
    simp
  | succ d ih =>
    intro k i h0 h1 hd hk
    obtain ⟨k, rfl⟩ : ∃ m, k = m + 1 := ⟨k - 1, by omega⟩
    have hw : wrap64 (i + 1) = i + 1 := by unfold wrap64; omega
    simp only [annexref3_Under.l0]
    rw [if_pos (by omega), if_pos h0, if_pos (by omega), hw, drop_at m i h0 (by omega), drop_at l i h0 (by omega)]
    by_cases hc : (rdOf ByteArray.empty l i).toList = (rdOf ByteArray.empty m i).toList
    · rw [if_pos hc, ih k (i + 1) (by omega) (by omega) (by omega) (by omega)]
      have : rdOf ByteArray.empty m i = rdOf ByteArray.empty l i := ba_ext (by simpa [ByteArray.toList_eq] using hc.symm)
      simp [List.cons_prefix_cons, this]
    · rw [if_neg hc]
      have : rdOf ByteArray.empty m i ≠ rdOf ByteArray.empty l i := fun e => hc (by rw [e])
      simp [List.cons_prefix_cons, this]
theorem under_both (p q : ByteArray) (hp : p.size ≤ 1048576) (hq : q.size ≤ 1048576) (k : Nat) (hk : 1048800 ≤ k) : ∃ b, names_Under.f k p q = some b ∧ annexref3_Under.f k p q = some b := by
  obtain ⟨j, rfl⟩ : ∃ m, k = m + 1 := ⟨k - 1, by omega⟩
  simp only [annexref3_Under.f, refSplit_f p (by omega) (j + 1) (by omega), refSplit_f q (by omega) (j + 1) (by omega)]
  rcases split_cases p with ⟨l, h1⟩ | ⟨e, h1, he⟩
  · have hl := (split_ok h1).1
    rcases split_cases q with ⟨m, h2⟩ | ⟨e, h2, he⟩
    · refine ⟨_, under_f h1 h2 (j + 1) (by omega), ?_⟩
      rw [h1, h2]
      simp only [Option.bind_some, if_true, annexref3_Under.j0]
      by_cases h : m.length > l.length
      · have : (decide ((m.length : Int) > (l.length : Int))) = true := by simp; omega
        rw [this, if_pos rfl]
        have : ¬ m <+: l := fun e => by have := e.length_le; omega
        simp [this]
      · have : (decide ((m.length : Int) > (l.length : Int))) = false := by simp; omega
        rw [this, if_neg (by decide), refUnder_l l m (by omega) hl m.length j 0 (by omega) (by omega) (by omega) (by omega)]
        simp
    · refine ⟨false, under_no (.inr ⟨⟨l, h1⟩, h2, by omega⟩) (j + 1) (by omega), ?_⟩
      rw [h1, h2]
      simp only [Option.bind_some, if_true, annexref3_Under.j0]
      rw [if_neg (by omega)]
  · refine ⟨false, under_no (.inl ⟨h1, by omega⟩) (j + 1) (by omega), ?_⟩
    rw [h1]
    obtain ⟨m, e2, h2⟩ : ∃ m e2, names_Split.f q = some (m, e2) := ⟨_, _, rfl⟩
    rw [h2]
    simp only [Option.bind_some, if_true, annexref3_Under.j0]
    rw [if_neg (by omega)]
/-- The inner loop from here on hands back what the outer one answers. -/
theorem adds_in (l : List ByteArray) (hl : l.length ≤ 1048576) (hs : ∀ s ∈ l, s.size ≤ 1048576) (i : Int) (h0 : 0 ≤ i) (h1 : i < l.length) (B : Nat) (hB : 1048800 ≤ B) (hout : ∀ k, B ≤ k → annexlaw3_NamesAdds.l0 k l (i + 1) = some true) (d : Nat) :
    ∀ (k : Nat) (j : Int), 0 ≤ j → j ≤ l.length → l.length - j = d → B + 2 * d + 4 ≤ k → annexlaw3_NamesAdds.l1 k l i j = some true := by
  have hwi : wrap64 (i + 1) = i + 1 := by unfold wrap64; omega
  induction d with
  | zero =>
    intro k j j0 j1 hd hk
    obtain ⟨k, rfl⟩ : ∃ m, k = m + 2 := ⟨k - 2, by omega⟩
    simp only [annexlaw3_NamesAdds.l1]
    rw [if_neg (by omega)]
    simp only [annexlaw3_NamesAdds.j3, Bool.false_eq_true, if_false, hwi]
    exact hout k (by omega)
  | succ d ih =>
    intro k j j0 j1 hd hk
    obtain ⟨k, rfl⟩ : ∃ m, k = m + 2 := ⟨k - 2, by omega⟩
    have hwj : wrap64 (j + 1) = j + 1 := by unfold wrap64; omega
    simp only [annexlaw3_NamesAdds.l1]
    rw [if_pos (by omega)]
    simp only [annexlaw3_NamesAdds.j3, hwi, hwj]
    by_cases h20 : (decide (j < 20)) = true
    · rw [if_pos h20, if_pos h0, if_pos (by omega), if_pos j0, if_pos (by omega), refAdd_f _ _ (rdOf_small hs i) k (by omega)]
      obtain ⟨a, e, ha⟩ : ∃ a e, names_Add.f (rdOf ByteArray.empty l i) (rdOf ByteArray.empty l j) = some (a, e) := by
        rcases split_cases (rdOf ByteArray.empty l i) with ⟨m, hm⟩ | ⟨e, hm, he⟩
        · obtain ⟨hml, hmg, hmj⟩ := split_ok hm
          rw [← hmj]
          by_cases hx : checkV (rdOf ByteArray.empty l j) = 0
          · by_cases hf : m.length < 16
            · exact ⟨_, _, add_good hf hmg hx⟩
            · exact ⟨_, _, add_full (by omega) hmg hx⟩
          · exact ⟨_, _, add_bad hml hmg hx⟩
        · exact ⟨_, _, add_none hm (by omega)⟩
      obtain ⟨b, hb1, hb2⟩ := under_both _ _ (rdOf_small hs i) (rdOf_small hs j) k (by omega)
      rw [ha, hb1, hb2]
      simp only [Option.bind_some, num_f, if_true, bne_self_eq_false, Bool.false_eq_true, if_false]
      exact ih k (j + 1) (by omega) (by omega) (by omega) (by omega)
    · rw [if_neg h20]
      exact hout k (by omega)
theorem adds_out (l : List ByteArray) (hl : l.length ≤ 1048576) (hs : ∀ s ∈ l, s.size ≤ 1048576) (d : Nat) :
    ∃ B, ∀ (i : Int), 0 ≤ i → i ≤ l.length → l.length - i = d → 1048800 ≤ B ∧ ∀ k, B ≤ k → annexlaw3_NamesAdds.l0 k l i = some true := by
  induction d with
  | zero =>
    refine ⟨1048800, fun i h0 h1 hd => ⟨Nat.le_refl _, fun k hk => ?_⟩⟩
    obtain ⟨k, rfl⟩ : ∃ m, k = m + 1 := ⟨k - 1, by omega⟩
    simp only [annexlaw3_NamesAdds.l0]
    rw [if_neg (by omega)]
  | succ d ih =>
    obtain ⟨B, hB⟩ := ih
    refine ⟨B + 2 * l.length + 10, fun i h0 h1 hd => ?_⟩
    obtain ⟨hB1, hB2⟩ := hB (i + 1) (by omega) (by omega) (by omega)
    refine ⟨by omega, fun k hk => ?_⟩
    obtain ⟨k, rfl⟩ : ∃ m, k = m + 2 := ⟨k - 2, by omega⟩
    simp only [annexlaw3_NamesAdds.l0]
    rw [if_pos (by omega), if_pos h0, refParent_f _ (rdOf_small hs i) (k + 1) (by omega)]
    obtain ⟨a, x, e, ha⟩ : ∃ a x e, names_Parent.f (rdOf ByteArray.empty l i) = some (a, x, e) := by
      rcases split_cases (rdOf ByteArray.empty l i) with ⟨m, hm⟩ | ⟨e, hm, he⟩
      · obtain ⟨hml, hmg, hmj⟩ := split_ok hm
        rw [← hmj]
        rcases List.eq_nil_or_concat m with rfl | ⟨m', y, rfl⟩
        · exact ⟨_, _, _, parent_root⟩
        · rw [List.concat_eq_append] at *
          exact ⟨_, _, _, parent_snoc hml hmg⟩
      · exact ⟨_, _, _, parent_none hm (by omega)⟩
    rw [ha]
    simp only [Option.bind_some, num_f, if_true, bne_self_eq_false, annexlaw3_NamesAdds.j1, Bool.false_eq_true, if_false]
    exact adds_in l hl hs i h0 (by omega) B hB1 hB2 l.length k 0 (by omega) (by omega) (by omega) (by omega)
theorem NamesAdds (l : List ByteArray) (hl : l.length ≤ 1048576) (hs : ∀ s ∈ l, s.size ≤ 1048576) : ∃ k, annexlaw3_NamesAdds.f k l = some true := by
  obtain ⟨B, hB⟩ := adds_out l hl hs l.length
  obtain ⟨h1, h2⟩ := hB 0 (by omega) (by omega) (by omega)
  refine ⟨B, ?_⟩
  simp only [annexlaw3_NamesAdds.f, first_f B (by omega), Option.bind_some, if_true]
  exact h2 B (Nat.le_refl _)
end Go.Proofs.Ytbelfaoolnijiaa.Pure
