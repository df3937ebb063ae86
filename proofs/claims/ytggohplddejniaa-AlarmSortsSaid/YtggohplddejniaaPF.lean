import Derived.Test.YtggohplddejniaaL3
namespace Go.Proofs.Ytggohplddejniaa
open Go
set_option maxRecDepth 4000

theorem Inv.nodup {K : Type} {T : KeyT K} {a : AS K} (h : Inv T a) : a.xs.Nodup := by
  refine List.pairwise_iff_getElem.2 (fun i j hi hj hij e => ?_)
  have hj' : a.xs[j]? = some a.xs[j] := List.getElem?_eq_getElem hj
  have hi' : a.xs[i]? = some a.xs[j] := by rw [List.getElem?_eq_getElem hi, e]
  have h1 := h.pl j _ hj'
  have h2 := h.pl i _ hi'
  rw [h1] at h2
  injection h2 with h2
  injection h2 with _ h2
  omega
theorem len_le {α : Type} : ∀ {l1 l2 : List α}, l1.Nodup → (∀ x ∈ l1, x ∈ l2) → l1.length ≤ l2.length
  | [], _, _, _ => Nat.zero_le _
  | x :: l1, l2, hn, h => by
    obtain ⟨s, t, rfl⟩ := List.append_of_mem (h x (List.mem_cons_self ..))
    have hx := (List.nodup_cons.1 hn)
    have := len_le (l1 := l1) (l2 := s ++ t) hx.2 (fun y hy => by
      have := h y (List.mem_cons_of_mem _ hy)
      simp only [List.mem_append, List.mem_cons] at this ⊢
      rcases this with h1 | h1 | h1
      · exact .inl h1
      · subst h1; exact absurd hy hx.1
      · exact .inr h1)
    simp only [List.length_append, List.length_cons] at this ⊢
    omega
theorem len_eq {α : Type} {l1 l2 : List α} (n1 : l1.Nodup) (n2 : l2.Nodup) (h : ∀ x, x ∈ l1 ↔ x ∈ l2) : l1.length = l2.length :=
  Nat.le_antisymm (len_le n1 fun x hx => (h x).1 hx) (len_le n2 fun x hx => (h x).2 hx)

/-- Two alarms that hold the same have the same first one. -/
theorem first_eq {K : Type} {T : KeyT K} {a b : AS K} (ha : Inv T a) (hb : Inv T b) (h : ∀ u, u ∈ a.xs ↔ u ∈ b.xs) : a.xs.getD 0 (tz T) = b.xs.getD 0 (tz T) := by
  have hl := len_eq ha.nodup hb.nodup h
  by_cases h0 : 0 < a.xs.length
  · have m1 : a.xs.getD 0 (tz T) ∈ a.xs := by rw [List.getD_eq_getElem?_getD, List.getElem?_eq_getElem h0]; exact List.getElem_mem h0
    have m2 : b.xs.getD 0 (tz T) ∈ b.xs := by rw [List.getD_eq_getElem?_getD, List.getElem?_eq_getElem (hl ▸ h0)]; exact List.getElem_mem (hl ▸ h0)
    exact ahd_tot (hb.first _ ((h _).1 m1)) (ha.first _ ((h _).2 m2))
  · have e1 : a.xs = [] := List.eq_nil_of_length_eq_zero (by omega)
    have e2 : b.xs = [] := List.eq_nil_of_length_eq_zero (by omega)
    rw [e1, e2]

def toT (q : Pair) : Tim Int := ⟨q.K, q.At⟩
def setsR (ps : List Pair) (i : Nat) (a : AS Int) : AS Int := (ps.take i).foldl (fun a q => a.set IT q.K q.At) a
def cansR (ps : List Pair) (i : Nat) (a : AS Int) : AS Int := (ps.take i).foldl (fun a q => a.cancel IT q.K) a
theorem setsR_succ {ps : List Pair} {i : Nat} (h : i < ps.length) (a : AS Int) : setsR ps (i + 1) a = (setsR ps i a).set IT ps[i].K ps[i].At := by
  unfold setsR
  rw [List.take_succ_eq_append_getElem h, List.foldl_append]
  rfl
theorem cansR_succ {ps : List Pair} {i : Nat} (h : i < ps.length) (a : AS Int) : cansR ps (i + 1) a = (cansR ps i a).cancel IT ps[i].K := by
  unfold cansR
  rw [List.take_succ_eq_append_getElem h, List.foldl_append]
  rfl
theorem setsR_inv (ps : List Pair) {a : AS Int} (h : Inv IT a) : ∀ i, i ≤ ps.length → Inv IT (setsR ps i a) ∧ (setsR ps i a).xs.length ≤ a.xs.length + i
  | 0, _ => ⟨h, Nat.le_refl _⟩
  | i + 1, hi => by
    obtain ⟨h1, h2⟩ := setsR_inv ps h i (by omega)
    rw [setsR_succ (by omega)]
    have := (h1.set ps[i].K ps[i].At).2.2
    refine ⟨(h1.set _ _).1, ?_⟩
    rw [this]
    split <;> omega
theorem cansR_inv (ps : List Pair) {a : AS Int} (h : Inv IT a) : ∀ i, i ≤ ps.length → Inv IT (cansR ps i a) ∧ (cansR ps i a).xs.length ≤ a.xs.length ∧ ∀ u, u ∈ (cansR ps i a).xs ↔ u ∈ a.xs ∧ ∀ q ∈ ps.take i, u.k ≠ q.K
  | 0, _ => ⟨h, Nat.le_refl _, fun u => by simp [cansR]⟩
  | i + 1, hi => by
    obtain ⟨h1, h2, h3⟩ := cansR_inv ps h i (by omega)
    rw [cansR_succ (by omega)]
    obtain ⟨g1, g2, g3⟩ := h1.cancel ps[i].K
    refine ⟨g1, by rw [g3]; omega, fun u => (g2 u).trans ?_⟩
    rw [h3, List.take_succ_eq_append_getElem (by omega)]
    simp only [List.mem_append, List.mem_singleton]
    constructor
    · rintro ⟨⟨h4, h5⟩, h6⟩
      exact ⟨h4, fun q hq => hq.elim (h5 q) (fun e => by rw [e]; exact h6)⟩
    · rintro ⟨h4, h5⟩
      exact ⟨⟨h4, fun q hq => h5 q (.inl hq)⟩, h5 _ (.inr rfl)⟩
theorem setsR_mem (ps : List Pair) {a : AS Int} (h : Inv IT a) : ∀ i, i ≤ ps.length → ∀ u, u ∈ (setsR ps i a).xs → u ∈ a.xs ∨ ∃ q ∈ ps.take i, u.k = q.K
  | 0, _, u, hu => .inl hu
  | i + 1, hi, u, hu => by
    rw [setsR_succ (by omega)] at hu
    rw [List.take_succ_eq_append_getElem (by omega)]
    rcases ((setsR_inv ps h i (by omega)).1.set _ _).2.1 u |>.1 hu with h1 | ⟨h1, _⟩
    · exact .inr ⟨ps[i], List.mem_append_right _ (List.mem_singleton.2 rfl), by rw [h1]⟩
    · rcases setsR_mem ps h i (by omega) u h1 with h2 | ⟨q, h2, h3⟩
      · exact .inl h2
      · exact .inr ⟨q, List.mem_append_left _ h2, h3⟩

/-- What is due goes, the rest stays. -/
theorem dueR_inv {now : Int} : ∀ (n : Nat) {a : AS Int}, Inv IT a → Inv IT (dueR IT now n a).2 ∧ (dueR IT now n a).2.xs.length ≤ a.xs.length ∧ ∀ u, u ∈ (dueR IT now n a).2.xs → u ∈ a.xs
  | 0, a, h => ⟨h, Nat.le_refl _, fun _ h => h⟩
  | n + 1, a, h => by
    rw [dueR]
    split
    · obtain ⟨g1, g2, g3⟩ := h.cancel (a.xs.getD 0 (tz IT)).k
      obtain ⟨k1, k2, k3⟩ := dueR_inv n g1
      exact ⟨k1, Nat.le_trans k2 (by rw [g3]; omega), fun u hu => ((g2 u).1 (k3 u hu)).1⟩
    · exact ⟨h, Nat.le_refl _, fun _ h => h⟩

/-- The last ones: each key once. -/
def keysNd (l : List Pair) : Prop := (l.map (·.K)).Nodup
theorem lastS_nd {l : List Pair} (h : keysNd l) (p : Pair) : keysNd (lastS l p) := by
  unfold lastS
  split
  · unfold keysNd
    rw [List.map_map]
    have : (fun q : Pair => q.K) ∘ updP p = fun q => q.K := by
      funext q
      simp only [Function.comp, updP]
      split <;> rfl
    rw [this]
    exact h
  · rename_i hn
    unfold keysNd at *
    rw [List.map_append, List.nodup_append]
    refine ⟨h, by simp, fun x hx y hy => ?_⟩
    simp at hy
    subst hy
    intro e
    subst e
    obtain ⟨q, hq, e⟩ := List.mem_map.1 hx
    exact hn (List.any_eq_true.2 ⟨q, hq, by simpa using e⟩)
theorem lastR_nd (ps : List Pair) : ∀ i, i ≤ ps.length → keysNd (lastR ps i)
  | 0, _ => by simp [lastR, keysNd]
  | i + 1, hi => by rw [lastR_succ (by omega)]; exact lastS_nd (lastR_nd ps i (by omega)) _
theorem lastS_mem (l : List Pair) (p q : Pair) : q ∈ lastS l p ↔ q = p ∨ (q ∈ l ∧ q.K ≠ p.K) := by
  unfold lastS
  split
  · rename_i hh
    rw [List.mem_map]
    constructor
    · rintro ⟨r, hr, e⟩
      unfold updP at e
      split at e
      · rename_i hk; subst e; exact .inl (by cases p; simp_all)
      · rename_i hk; subst e; exact .inr ⟨hr, hk⟩
    · rintro (h1 | ⟨h1, h2⟩)
      · obtain ⟨r, hr, e⟩ := List.any_eq_true.1 hh
        have e' : r.K = p.K := by simpa using e
        exact ⟨r, hr, by unfold updP; rw [if_pos e', h1]; cases p; simp_all⟩
      · exact ⟨q, h1, by unfold updP; rw [if_neg h2]⟩
  · rename_i hn
    rw [List.mem_append, List.mem_singleton]
    constructor
    · rintro (h1 | h1)
      · exact .inr ⟨h1, fun e => hn (List.any_eq_true.2 ⟨q, h1, by simpa using e⟩)⟩
      · exact .inl h1
    · rintro (h1 | ⟨h1, _⟩)
      · exact .inr h1
      · exact .inl h1
/-- An alarm that was empty holds the last ones. -/
theorem setsR_last (ps : List Pair) {a : AS Int} (h : Inv IT a) (h0 : a.xs = []) : ∀ i, i ≤ ps.length → ∀ u, u ∈ (setsR ps i a).xs ↔ ∃ q ∈ lastR ps i, toT q = u
  | 0, _, u => by simp [setsR, lastR, h0]
  | i + 1, hi, u => by
    rw [setsR_succ (by omega), lastR_succ (by omega)]
    refine (((setsR_inv ps h i (by omega)).1.set _ _).2.1 u).trans ?_
    rw [setsR_last ps h h0 i (by omega) u]
    constructor
    · rintro (h1 | ⟨⟨q, h1, h2⟩, h3⟩)
      · exact ⟨ps[i], (lastS_mem _ _ _).2 (.inl rfl), h1.symm⟩
      · exact ⟨q, (lastS_mem _ _ _).2 (.inr ⟨h1, by rw [← h2] at h3; exact h3⟩), h2⟩
    · rintro ⟨q, h1, h2⟩
      rcases (lastS_mem _ _ _).1 h1 with h3 | ⟨h3, h4⟩
      · subst h3; exact .inl h2.symm
      · exact .inr ⟨⟨q, h3, h2⟩, by rw [← h2]; exact h4⟩
/-- Told backwards. -/
def backR (l : List Pair) (i : Nat) : AS Int := (l.drop i).foldr (fun q a => a.set IT q.K q.At) e0
theorem backR_step {l : List Pair} {i : Nat} (h : i < l.length) : backR l i = (backR l (i + 1)).set IT l[i].K l[i].At := by
  unfold backR
  rw [List.drop_eq_getElem_cons h]
  rfl
theorem foldr_ok : ∀ (l : List Pair), keysNd l → Inv IT (l.foldr (fun q a => a.set IT q.K q.At) e0) ∧ (l.foldr (fun q a => AS.set IT a q.K q.At) e0).xs.length ≤ l.length ∧ ∀ u, u ∈ (l.foldr (fun q a => AS.set IT a q.K q.At) e0).xs ↔ ∃ q ∈ l, toT q = u
  | [], _ => ⟨Inv.new, Nat.le_refl _, fun u => by simp⟩
  | p :: l, h => by
    unfold keysNd at h
    rw [List.map_cons, List.nodup_cons] at h
    obtain ⟨h1, h2, h3⟩ := foldr_ok l h.2
    obtain ⟨g1, g2, g3⟩ := h1.set p.K p.At
    refine ⟨g1, ?_, fun u => (g2 u).trans ?_⟩
    · rw [List.foldr_cons, g3, List.length_cons]
      split <;> omega
    · rw [h3]
      constructor
      · rintro (e | ⟨⟨q, q1, q2⟩, _⟩)
        · exact ⟨p, List.mem_cons_self .., e.symm⟩
        · exact ⟨q, List.mem_cons_of_mem _ q1, q2⟩
      · rintro ⟨q, q1, q2⟩
        rcases List.mem_cons.1 q1 with e | q1
        · subst e; exact .inl q2.symm
        · refine .inr ⟨⟨q, q1, q2⟩, ?_⟩
          rw [← q2]
          intro e
          exact h.1 (List.mem_map.2 ⟨q, q1, e⟩)
theorem backR_ok {l : List Pair} (h : keysNd l) (i : Nat) : Inv IT (backR l i) ∧ (backR l i).xs.length ≤ l.length ∧ ∀ u, u ∈ (backR l i).xs ↔ ∃ q ∈ l.drop i, toT q = u := by
  have hd : keysNd (l.drop i) := by
    unfold keysNd at *
    rw [List.map_drop]
    exact h.sublist (List.drop_sublist _ _)
  obtain ⟨h1, h2, h3⟩ := foldr_ok (l.drop i) hd
  exact ⟨h1, by rw [List.length_drop] at h2; unfold backR; omega, h3⟩
theorem toT_inj {p q : Pair} (h : toT p = toT q) : p = q := by cases p; cases q; cases h; rfl
theorem nd_map {l : List Pair} (h : keysNd l) : (l.map toT).Nodup := by
  unfold keysNd at h
  induction l with
  | nil => simp
  | cons p l ih =>
    rw [List.map_cons, List.nodup_cons] at h ⊢
    refine ⟨fun hm => ?_, ih h.2⟩
    obtain ⟨q, q1, q2⟩ := List.mem_map.1 hm
    rw [toT_inj q2] at q1
    exact h.1 (List.mem_map.2 ⟨p, q1, rfl⟩)
/-- The law's two alarms, when all has been told. -/
structure Twin (n : Nat) (a b : AS Int) : Prop where
  ia : Inv IT a
  ib : Inv IT b
  same : ∀ u, u ∈ a.xs ↔ u ∈ b.xs
  la : a.xs.length = n
theorem Twin.lb {n : Nat} {a b : AS Int} (h : Twin n a b) : b.xs.length = n := (len_eq h.ia.nodup h.ib.nodup h.same).symm.trans h.la
theorem Twin.next {n : Nat} {a b : AS Int} (h : Twin (n + 1) a b) : Twin n (a.cancel IT (a.xs.getD 0 (tz IT)).k) (b.cancel IT (a.xs.getD 0 (tz IT)).k) := by
  obtain ⟨g1, g2, g3⟩ := h.ia.cancel (a.xs.getD 0 (tz IT)).k
  obtain ⟨k1, k2, k3⟩ := h.ib.cancel (a.xs.getD 0 (tz IT)).k
  have hc := h.ia.cancel_first (by rw [h.la]; omega)
  exact ⟨g1, k1, fun u => by rw [g2, k2, h.same], by have := h.la; omega⟩
theorem twin_of {gone kept : List Pair} {now : Int} {i j : Nat} (hi : i ≤ gone.length) (hj : j ≤ kept.length) :
    Twin (lastR kept j).length (setsR kept j (cansR gone i (AS.due IT (setsR gone i e0) now).2)) (backR (lastR kept j) 0) := by
  have h1 := setsR_inv gone (a := e0) Inv.new i hi
  have h2 := dueR_inv (now := now) (setsR gone i e0).xs.length h1.1
  have h3 := cansR_inv gone h2.1 i hi
  have h0 : (cansR gone i (AS.due IT (setsR gone i e0) now).2).xs = [] := by
    rw [List.eq_nil_iff_forall_not_mem]
    intro u hu
    obtain ⟨g1, g2⟩ := (h3.2.2 u).1 hu
    rcases setsR_mem gone (a := e0) Inv.new i hi u (h2.2.2 u g1) with h4 | ⟨q, h4, h5⟩
    · cases h4
    · exact g2 q h4 h5
  have h4 := setsR_inv kept h3.1 j hj
  have h5 := setsR_last kept h3.1 h0 j hj
  have hnd := lastR_nd kept j hj
  obtain ⟨b1, _, b3⟩ := backR_ok hnd 0
  refine ⟨h4.1, b1, fun u => (h5 u).trans (by rw [b3, List.drop_zero]), ?_⟩
  have := len_eq h4.1.nodup (nd_map hnd) (fun u => (h5 u).trans List.mem_map.symm)
  exact this.trans (List.length_map ..)
end Go.Proofs.Ytggohplddejniaa
