import Derived.Test.YtbelfaoolnijiaaPurAdd
import Derived.Test.YtbelfaoolnijiaaPAx36
namespace Go.Proofs.Ytbelfaoolnijiaa.Pure
open Go.RowKit Go.Proofs.Ytbelfaoolnijiaa Go.Proofs.Ytbelfaoolnijiaa.PA Go.Proofs.YtbelfaoolnijiaaW.PrintWords Go.Proofs.YtbelfaoolnijiaaW.PrintLast Go.Proofs.YtbelfaoolnijiaaW.PrintMore
theorem drop_at (l : List ByteArray) (i : Int) (h0 : 0 ≤ i) (h1 : i < l.length) : l.drop i.toNat = rdOf ByteArray.empty l i :: l.drop (i + 1).toNat := by
  rw [show (i + 1).toNat = i.toNat + 1 by omega, List.drop_eq_getElem_cons (by omega)]; simp [rdOf, List.getD, List.getElem?_eq_getElem (show i.toNat < l.length by omega)]
theorem under_l (l m : List ByteArray) (hm : m.length ≤ l.length) (hl : l.length ≤ 16) (d : Nat) : ∀ (k : Nat) (i : Int), 0 ≤ i → i ≤ m.length → m.length - i = d → d + 1 ≤ k →
    names_Under.l0 k l m m.length i = some (decide (m.drop i.toNat <+: l.drop i.toNat)) := by
  induction d with
  | zero =>
    intro k i h0 h1 hd hk
    obtain ⟨k, rfl⟩ : ∃ m, k = m + 1 := ⟨k - 1, by omega⟩
    simp only [names_Under.l0]
    rw [if_neg (by omega), List.drop_of_length_le (by omega : m.length ≤ i.toNat)]
    simp
  | succ d ih =>
    intro k i h0 h1 hd hk
    obtain ⟨k, rfl⟩ : ∃ m, k = m + 1 := ⟨k - 1, by omega⟩
    have hw : wrap64 (i + 1) = i + 1 := by unfold wrap64; omega
    simp only [names_Under.l0]
    rw [if_pos (by omega), if_pos h0, if_pos (by omega), if_pos (by omega), hw, drop_at m i h0 (by omega), drop_at l i h0 (by omega)]
    by_cases hc : (rdOf ByteArray.empty l i).toList = (rdOf ByteArray.empty m i).toList
    · rw [if_pos hc, ih k (i + 1) (by omega) (by omega) (by omega) (by omega)]
      have : rdOf ByteArray.empty m i = rdOf ByteArray.empty l i := ba_ext (by simpa [ByteArray.toList_eq] using hc.symm)
      simp [List.cons_prefix_cons, this]
    · rw [if_neg hc]
      have : rdOf ByteArray.empty m i ≠ rdOf ByteArray.empty l i := fun e => hc (by rw [e])
      simp [List.cons_prefix_cons, this]
theorem under_f {p q : ByteArray} {l m : List ByteArray} (hp : names_Split.f p = some (l, 0)) (hq : names_Split.f q = some (m, 0)) (k : Nat) (hk : 20 ≤ k) : names_Under.f k p q = some (decide (m <+: l)) := by
  have hl := (split_ok hp).1
  obtain ⟨k, rfl⟩ : ∃ m, k = m + 1 := ⟨k - 1, by omega⟩
  simp only [names_Under.f, hp, hq, Option.bind_some, if_true, names_Under.j0]
  by_cases h : m.length > l.length
  · have : (decide ((m.length : Int) > (l.length : Int))) = true := by simp; omega
    rw [this, if_pos rfl]
    have : ¬ m <+: l := fun e => by have := e.length_le; omega
    simp [this]
  · have : (decide ((m.length : Int) > (l.length : Int))) = false := by simp; omega
    rw [this, if_neg (by decide), under_l l m (by omega) hl m.length k 0 (by omega) (by omega) (by omega) (by omega)]
    simp
theorem under_no {p q : ByteArray} {e : Int} (h : (names_Split.f p = some ([], e) ∧ e ≠ 0) ∨ ((∃ l, names_Split.f p = some (l, 0)) ∧ names_Split.f q = some ([], e) ∧ e ≠ 0)) (k : Nat) (hk : 1 ≤ k) : names_Under.f k p q = some false := by
  obtain ⟨k, rfl⟩ : ∃ m, k = m + 1 := ⟨k - 1, by omega⟩
  rcases h with ⟨h, he⟩ | ⟨⟨l, hp⟩, h, he⟩
  · simp only [names_Under.f, h, Option.bind_some]; rw [if_neg he]
  · simp only [names_Under.f, h, hp, Option.bind_some, if_true]; rw [if_neg he]; simp [names_Under.j0]
theorem ups_l (l : List ByteArray) (hl : l.length ≤ 16) (hg : goodB l = true) (q : ByteArray) (un : Bool) (hun : un = true ↔ ∃ j, j ≤ l.length ∧ joinS (l.take j) = q) (n : Nat) :
    ∀ (k : Nat) (met : Bool), n ≤ l.length → 2 * n + 4 ≤ k → (met = true ↔ ∃ j, n ≤ j ∧ j ≤ l.length ∧ joinS (l.take j) = q) → annexlaw3_NamesUps.l0 k q un met (joinS (l.take n)) ((l.length : Int) - n) = some true := by
  induction n with
  | zero =>
    intro k met hn hk hmet
    obtain ⟨k, rfl⟩ : ∃ m, k = m + 2 := ⟨k - 2, by omega⟩
    have hb : (joinS (l.take 0)).toList = [47] := by rw [ByteArray.toList_eq]; exact joinS_nil
    have hb2 : ((joinS (l.take 0)).toList != ([47] : List UInt8)) = false := by rw [hb]; rfl
    simp only [annexlaw3_NamesUps.l0]
    rw [if_pos (by omega), hb2]
    simp only [annexlaw3_NamesUps.j2, Bool.false_eq_true, if_false]
    rw [← joinS_slash, parent_root]
    simp only [Option.bind_some, hb, if_true, num_f]
    have : met = un := by
      rw [Bool.eq_iff_iff, hmet, hun]
      exact ⟨fun ⟨j, _, h⟩ => ⟨j, h⟩, fun ⟨j, h⟩ => ⟨j, Nat.zero_le _, h⟩⟩
    simp [this]
  | succ n ih =>
    intro k met hn hk hmet
    obtain ⟨k, rfl⟩ : ∃ m, k = m + 2 := ⟨k - 2, by omega⟩
    have ht : l.take (n + 1) = l.take n ++ [l[n]'(by omega)] := List.take_succ_eq_append_getElem (by omega)
    have hgt := good_take hg (n + 1)
    have hlt : (l.take (n + 1)).length ≤ 16 := by simp; omega
    have hx : checkV (l[n]'(by omega)) = 0 := good_iff.1 hg _ (List.getElem_mem _)
    have hb2 : ((joinS (l.take (n + 1))).toList != ([47] : List UInt8)) = true := by
      rw [bne_iff_ne, ByteArray.toList_eq]
      intro e
      have e2 : joinS (l.take (n + 1)) = joinS [] := ba_ext (by rw [e, joinS_nil])
      have s1 := split_join hlt hgt
      rw [e2, split_join (l := []) (by simp) rfl] at s1
      have := congrArg List.length (Prod.mk.inj (Option.some.inj s1)).1
      simp at this; omega
    have hw : wrap64 ((l.length : Int) - ((n + 1 : Nat) : Int) + 1) = (l.length : Int) - n := by unfold wrap64; omega
    simp only [annexlaw3_NamesUps.l0]
    rw [if_pos (by omega), hb2]
    simp only [annexlaw3_NamesUps.j2, if_true]
    have hp : names_Parent.f (joinS (l.take (n + 1))) = some (joinS (l.take n), l[n]'(by omega), 0) := by
      rw [ht]; exact parent_snoc (by rw [← ht]; exact hlt) (by rw [← ht]; exact hgt)
    have ha : names_Add.f (joinS (l.take n)) (l[n]'(by omega)) = some (joinS (l.take (n + 1)), 0) := by
      rw [ht]; exact add_good (by simp; omega) (good_take hg n) hx
    rw [hp]
    simp only [Option.bind_some, num_f, if_true, hw]
    rw [ha]
    simp only [Option.bind_some, num_f, if_true]
    have step : ∀ b : Bool, (b = true ↔ joinS (l.take n) = q) → ∀ c : Bool, c = (met || b) → annexlaw3_NamesUps.l0 k q un c (joinS (l.take n)) ((l.length : Int) - n) = some true := by
      intro b hb c hc
      subst hc
      refine ih k _ (by omega) (by omega) ?_
      rw [Bool.or_eq_true, hmet, hb]
      constructor
      · rintro (⟨j, h1, h2, h3⟩ | h)
        · exact ⟨j, by omega, h2, h3⟩
        · exact ⟨n, Nat.le_refl _, by omega, h⟩
      · rintro ⟨j, h1, h2, h3⟩
        by_cases e : j = n
        · subst e; exact .inr h3
        · exact .inl ⟨j, by omega, h2, h3⟩
    have hbb : ((joinS (l.take n)).toList == q.toList) = true ↔ joinS (l.take n) = q := by
      rw [beq_iff_eq, ByteArray.toList_eq, ByteArray.toList_eq]
      exact ⟨ba_ext, fun e => by rw [e]⟩
    cases met with
    | true => rw [if_pos rfl]; exact step _ hbb true (by simp)
    | false => rw [if_neg (by decide)]; exact step _ hbb _ (by simp)
theorem ups_j0 (p q : ByteArray) (k : Nat) (hk : 60 ≤ k) : annexlaw3_NamesUps.j0 k p q = some true := by
  obtain ⟨k, rfl⟩ : ∃ m, k = m + 1 := ⟨k - 1, by omega⟩
  simp only [annexlaw3_NamesUps.j0]
  rcases split_cases p with ⟨l, hp⟩ | ⟨e, hp, he⟩
  · obtain ⟨hl, hg, hj⟩ := split_ok hp
    obtain ⟨un, hu, hun⟩ : ∃ un, names_Under.f k p q = some un ∧ (un = true ↔ ∃ j, j ≤ l.length ∧ joinS (l.take j) = q) := by
      rcases split_cases q with ⟨m, hq⟩ | ⟨e, hq, he⟩
      · obtain ⟨hm, hgm, hjm⟩ := split_ok hq
        refine ⟨_, under_f hp hq k (by omega), ?_⟩
        rw [decide_eq_true_iff]
        constructor
        · intro h
          exact ⟨m.length, h.length_le, by rw [← List.prefix_iff_eq_take.1 h]; exact hjm⟩
        · rintro ⟨j, h1, h2⟩
          have s1 := split_join (l := l.take j) (by simp; omega) (good_take hg j)
          rw [h2, hq] at s1
          rw [(Prod.mk.inj (Option.some.inj s1)).1]
          exact List.take_prefix _ _
      · refine ⟨false, under_no (.inr ⟨⟨l, hp⟩, hq, by omega⟩) k (by omega), ?_⟩
        constructor
        · intro h; cases h
        · rintro ⟨j, h1, h2⟩
          have s1 := split_join (l := l.take j) (by simp; omega) (good_take hg j)
          rw [h2, hq] at s1
          have := (Prod.mk.inj (Option.some.inj s1)).2
          omega
    rw [hu, hp]
    simp only [Option.bind_some, num_f, if_true]
    have := ups_l l hl hg q un hun l.length k (p.toList == q.toList) (Nat.le_refl _) (by omega) (by
      rw [beq_iff_eq, ByteArray.toList_eq, ByteArray.toList_eq]
      constructor
      · intro e; exact ⟨l.length, Nat.le_refl _, Nat.le_refl _, by rw [List.take_length, hj]; exact ba_ext e⟩
      · rintro ⟨j, h1, h2, h3⟩
        obtain rfl : j = l.length := by omega
        rw [List.take_length, hj] at h3; rw [h3])
    rw [List.take_length, hj, Int.sub_self] at this
    exact this
  · rw [under_no (.inl ⟨hp, by omega⟩) k (by omega), hp]
    simp only [Option.bind_some, num_f]
    rw [if_neg (by omega)]; rfl
theorem NamesUps (a0 a1 a2 : ByteArray) (_ : a0.size ≤ 140737488351232) (_ : a1.size ≤ 140737488351232) (_ : a2.size ≤ 140737488351232) : ∃ k, annexlaw3_NamesUps.f k a0 a1 a2 = some true := by
  refine ⟨100, ?_⟩
  simp only [annexlaw3_NamesUps.f, first_f _ (show 5 ≤ 100 by omega), Option.bind_some, if_true]
  have hj := ups_j0 a0 a2 100 (by omega)
  have bad : ∀ (s : ByteArray) (e : Int), e ≠ 0 → names_Add.f a0 a1 = some (s, e) → _ := fun s e he h => h
  rcases split_cases a0 with ⟨l, hp⟩ | ⟨e, hp, he⟩
  · obtain ⟨hl, hg, hjl⟩ := split_ok hp
    by_cases hx : checkV a1 = 0
    · by_cases h16 : l.length < 16
      · have ha : names_Add.f a0 a1 = some (joinS (l ++ [a1]), 0) := by rw [← hjl]; exact add_good h16 hg hx
        have hgs : goodB (l ++ [a1]) = true := by rw [good_snoc, hg, hx]; rfl
        have hpar := parent_snoc (cur := l) (x := a1) (by simp; omega) hgs
        rw [ha]
        simp only [Option.bind_some, num_f, if_true]
        rw [hpar]
        simp only [Option.bind_some, num_f, if_true, hjl]
        exact hj
      · have ha : names_Add.f a0 a1 = some (⟨#[]⟩, 33) := by rw [← hjl]; exact add_full (by omega) hg hx
        rw [ha]
        simp only [Option.bind_some, num_f]
        rw [if_neg (by decide)]; exact hj
    · have ha : names_Add.f a0 a1 = some (⟨#[]⟩, 31) := by rw [← hjl]; exact add_bad hl hg hx
      rw [ha]
      simp only [Option.bind_some, num_f]
      rw [if_neg (by decide)]; exact hj
  · rw [add_none hp (by omega)]
    simp only [Option.bind_some, num_f]
    rw [if_neg (by omega)]; exact hj
end Go.Proofs.Ytbelfaoolnijiaa.Pure
