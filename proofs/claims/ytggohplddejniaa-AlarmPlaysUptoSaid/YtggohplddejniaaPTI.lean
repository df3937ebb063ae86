import Derived.Test.YtggohplddejniaaPT
namespace Go.Proofs.Ytggohplddejniaa.RI
open Go Go.Proofs.Ytggohplddejniaa
set_option maxRecDepth 4000

/-- The alarm and the document's hold the same. -/
structure Rel (a : AS Int) (l : List Itm) : Prop where
  inv : Inv IT a
  nd : (l.map (·.n)).Nodup
  n0 : ∀ q ∈ l, q.s = ByteArray.empty
  mem : ∀ u : Tim Int, u ∈ a.xs ↔ (⟨u.k, ByteArray.empty, u.at_⟩ : Itm) ∈ l
def toU (q : Itm) : Tim Int := ⟨q.n, q.at_⟩
theorem Rel.new : Rel ⟨[], []⟩ [] := ⟨Inv.new, by simp, by simp, by simp⟩
theorem Rel.back {a : AS Int} {l : List Itm} (h : Rel a l) {q : Itm} (hq : q ∈ l) : toU q ∈ a.xs := by
  have : (⟨q.n, ByteArray.empty, q.at_⟩ : Itm) = q := by
    have := h.n0 q hq
    cases q
    simp_all
  exact (h.mem _).2 (by show (⟨q.n, ByteArray.empty, q.at_⟩ : Itm) ∈ l; rw [this]; exact hq)
theorem Rel.key {a : AS Int} {l : List Itm} (h : Rel a l) {q r : Itm} (hq : q ∈ l) (hr : r ∈ l) (e : q.n = r.n) : q = r := by
  have h1 := h.inv.keys (h.back hq) (h.back hr) e
  have h2 : q.at_ = r.at_ := congrArg Tim.at_ h1
  have h3 := h.n0 q hq
  have h4 := h.n0 r hr
  cases q; cases r
  simp_all
theorem fnd_is {k : Int} {l : List Itm} (h0 : ∀ q ∈ l, q.s = ByteArray.empty) : (fnd k ByteArray.empty l).isSome = true ↔ ∃ q ∈ l, q.n = k := by
  constructor
  · intro h
    obtain ⟨i, hi⟩ := Option.isSome_iff_exists.1 h
    obtain ⟨q, hq, q2, _, _⟩ := fnd_some hi
    exact ⟨q, List.mem_of_getElem? hq, q2⟩
  · rintro ⟨q, hq, h⟩
    cases hf : fnd k ByteArray.empty l with
    | some i => rfl
    | none =>
      have := List.findIdx?_eq_none_iff.1 hf q hq
      simp [Itm.is, h0 q hq, h] at this
theorem Rel.has {a : AS Int} {l : List Itm} (h : Rel a l) (k : Int) : (fnd k ByteArray.empty l).isSome = a.has IT k := by
  rw [Bool.eq_iff_iff, fnd_is h.n0, h.inv.has_iff]
  constructor
  · rintro ⟨q, hq, e⟩
    exact ⟨toU q, h.back hq, e⟩
  · rintro ⟨u, hu, e⟩
    exact ⟨_, (h.mem u).1 hu, e⟩
theorem Rel.when_ {a : AS Int} {l : List Itm} (h : Rel a l) (k : Int) : dwhen k ByteArray.empty l = a.when IT k := by
  cases hf : fnd k ByteArray.empty l with
  | none =>
    rw [dwhen, hf, AS.when_not]
    rw [← h.has, hf]
    rfl
  | some i =>
    obtain ⟨q, hq, q2, _, _⟩ := fnd_some hf
    have hm := List.mem_of_getElem? hq
    have := h.inv.when_of (h.back hm)
    rw [dwhen, hf]
    dsimp only
    rw [List.getD_eq_getElem?_getD, hq, ← q2]
    exact this.symm
theorem Rel.len {a : AS Int} {l : List Itm} (h : Rel a l) : a.xs.length = l.length := by
  have hn : (l.map toU).Nodup := by
    have h1 := h.nd
    refine List.pairwise_iff_getElem.2 (fun i j hi hj hij e => ?_)
    have h2 := List.pairwise_iff_getElem.1 h1 i j (by simpa using hi) (by simpa using hj) hij
    apply h2
    simp only [List.getElem_map, toU] at e ⊢
    exact congrArg Tim.k e
  rw [len_eq h.inv.nodup hn (fun u => ?_), List.length_map]
  rw [h.mem, List.mem_map]
  constructor
  · intro hu
    exact ⟨_, hu, rfl⟩
  · rintro ⟨q, hq, rfl⟩
    exact (h.mem _).1 (h.back hq)
theorem mem_set {l : List Itm} {i : Nat} (hi : i < l.length) (z q : Itm) : q ∈ l.set i z ↔ q = z ∨ ∃ j, j ≠ i ∧ l[j]? = some q := by
  constructor
  · intro h
    obtain ⟨j, hj⟩ := List.mem_iff_getElem?.1 h
    rw [List.getElem?_set] at hj
    split at hj
    · rename_i e
      injection hj with hj
      exact .inl hj.symm
    · rename_i e
      exact .inr ⟨j, fun e' => e e'.symm, hj⟩
  · rintro (rfl | ⟨j, hj, h⟩)
    · exact List.mem_iff_getElem?.2 ⟨i, by rw [List.getElem?_set, if_pos rfl, if_pos hi]⟩
    · exact List.mem_iff_getElem?.2 ⟨j, by rw [List.getElem?_set, if_neg (fun e => hj e.symm)]; exact h⟩
theorem nd_ix {l : List Itm} (h : (l.map (·.n)).Nodup) {i j : Nat} {q r : Itm} (hi : l[i]? = some q) (hj : l[j]? = some r) (e : q.n = r.n) : i = j := by
  have hi' : (l.map (·.n))[i]? = some q.n := by rw [List.getElem?_map, hi]; rfl
  have hj' : (l.map (·.n))[j]? = some q.n := by rw [List.getElem?_map, hj, e]; rfl
  obtain ⟨h1, h2⟩ := List.getElem?_eq_some_iff.1 hi'
  obtain ⟨h3, h4⟩ := List.getElem?_eq_some_iff.1 hj'
  rcases Nat.lt_trichotomy i j with hlt | heq | hgt
  · exact absurd (h2.trans h4.symm) (List.pairwise_iff_getElem.1 h i j h1 h3 hlt)
  · exact heq
  · exact absurd (h4.trans h2.symm) (List.pairwise_iff_getElem.1 h j i h3 h1 hgt)
theorem Rel.set {a : AS Int} {l : List Itm} (h : Rel a l) (k : Int) (t : Int) : Rel (a.set IT k t) (dset k ByteArray.empty t l) := by
  obtain ⟨g1, g2, g3⟩ := h.inv.set k t
  cases hf : fnd k ByteArray.empty l with
  | none =>
    have hno : ∀ q ∈ l, q.n ≠ k := fun q hq e => by
      have := (fnd_is (k := k) h.n0).2 ⟨q, hq, e⟩
      rw [hf] at this
      cases this
    rw [dset, hf]
    refine ⟨g1, ?_, fun q hq => ?_, fun u => (g2 u).trans ?_⟩
    · rw [List.map_append, List.nodup_append]
      refine ⟨h.nd, by simp, fun x hx y hy e => ?_⟩
      obtain ⟨q, hq, e'⟩ := List.mem_map.1 hx
      simp at hy
      exact hno q hq (e'.trans (e.trans hy))
    · rcases List.mem_append.1 hq with hq | hq
      · exact h.n0 q hq
      · rw [List.mem_singleton.1 hq]
    · rw [List.mem_append, List.mem_singleton, h.mem]
      constructor
      · rintro (rfl | ⟨h1, _⟩)
        · exact .inr rfl
        · exact .inl h1
      · rintro (h1 | h1)
        · exact .inr ⟨h1, fun e => hno _ h1 e⟩
        · injection h1 with _ e1 e2
          cases u
          simp_all
  | some i =>
    obtain ⟨q, hq, q2, q1, hi⟩ := fnd_some hf
    rw [dset, hf]
    dsimp only
    refine ⟨g1, ?_, fun r hr => ?_, fun u => (g2 u).trans ?_⟩
    · have : (l.set i ⟨k, ByteArray.empty, t⟩).map (·.n) = l.map (·.n) := by
        rw [List.map_set]
        refine List.ext_getElem? (fun j => ?_)
        rw [List.getElem?_set]
        split
        · rename_i e
          subst e
          rw [if_pos (by simpa using hi), List.getElem?_map, hq]
          simp [q2]
        · rfl
      rw [this]
      exact h.nd
    · rcases (mem_set hi _ _).1 hr with e | ⟨j, _, hj⟩
      · rw [e]
      · exact h.n0 r (List.mem_of_getElem? hj)
    · rw [mem_set hi, h.mem]
      constructor
      · rintro (rfl | ⟨h1, h2⟩)
        · exact .inl rfl
        · obtain ⟨j, hj⟩ := List.mem_iff_getElem?.1 h1
          refine .inr ⟨j, fun e => ?_, hj⟩
          subst e
          rw [hq] at hj
          injection hj with hj
          exact h2 (by rw [← q2, hj])
      · rintro (h1 | ⟨j, hj, h1⟩)
        · injection h1 with _ e1 e2
          left
          cases u
          simp_all
        · exact .inr ⟨List.mem_of_getElem? h1, fun e => hj (nd_ix h.nd h1 hq (by rw [q2]; exact e))⟩
theorem mem_erase {l : List Itm} {i : Nat} (q : Itm) : q ∈ l.eraseIdx i ↔ ∃ j, j ≠ i ∧ l[j]? = some q := by
  constructor
  · intro h
    obtain ⟨j, hj⟩ := List.mem_iff_getElem?.1 h
    rw [List.getElem?_eraseIdx] at hj
    split at hj
    · exact ⟨j, by omega, hj⟩
    · exact ⟨j + 1, by omega, hj⟩
  · rintro ⟨j, hj, h⟩
    rcases Nat.lt_or_gt_of_ne hj with hlt | hgt
    · exact List.mem_iff_getElem?.2 ⟨j, by rw [List.getElem?_eraseIdx, if_pos hlt]; exact h⟩
    · exact List.mem_iff_getElem?.2 ⟨j - 1, by rw [List.getElem?_eraseIdx, if_neg (by omega), show j - 1 + 1 = j by omega]; exact h⟩
theorem Rel.erase {a : AS Int} {l : List Itm} (h : Rel a l) {i : Nat} {q : Itm} (hq : l[i]? = some q) : Rel (a.cancel IT q.n) (l.eraseIdx i) := by
  obtain ⟨g1, g2, g3⟩ := h.inv.cancel q.n
  refine ⟨g1, ?_, fun r hr => ?_, fun u => (g2 u).trans ?_⟩
  · exact h.nd.sublist ((List.eraseIdx_sublist l i).map _)
  · obtain ⟨j, _, hj⟩ := (mem_erase r).1 hr
    exact h.n0 r (List.mem_of_getElem? hj)
  · rw [mem_erase, h.mem]
    constructor
    · rintro ⟨h1, h2⟩
      obtain ⟨j, hj⟩ := List.mem_iff_getElem?.1 h1
      refine ⟨j, fun e => ?_, hj⟩
      subst e
      rw [hq] at hj
      injection hj with hj
      exact h2 (by rw [hj])
    · rintro ⟨j, hj, h1⟩
      exact ⟨List.mem_of_getElem? h1, fun e => hj (nd_ix h.nd h1 hq e)⟩
theorem cancel_not {a : AS Int} {k : Int} (h : a.has IT k = false) : a.cancel IT k = a := by
  unfold AS.has at h
  unfold AS.cancel
  cases hm : mget IT.ko a.m k with
  | none => rfl
  | some v => rw [hm] at h; cases h
theorem Rel.cancel {a : AS Int} {l : List Itm} (h : Rel a l) (k : Int) : Rel (a.cancel IT k) (dcancel k ByteArray.empty l) := by
  cases hf : fnd k ByteArray.empty l with
  | none =>
    rw [dcancel, hf, cancel_not (by rw [← h.has, hf]; rfl)]
    exact h
  | some i =>
    obtain ⟨q, hq, q2, q1, hi⟩ := fnd_some hf
    rw [dcancel, hf, ← q2]
    exact h.erase hq
theorem iahd_eq {q r : Itm} (h1 : q.s = ByteArray.empty) (h2 : r.s = ByteArray.empty) : iahd q r = ahd IT (toU q) (toU r) := by
  unfold iahd blw ahd toU
  rw [h1, h2]
  simp
  rw [bl_irr, Bool.and_false, Bool.or_false]
  rfl
theorem firstR_none {l : List Itm} : ∀ i, firstR l i = none → i = 0
  | 0, _ => rfl
  | i + 1, h => by
    rw [firstR_succ] at h
    unfold bstep at h
    split at h
    · cases h
    · split at h <;> cases h
theorem firstR_least {l : List Itm} (h0 : ∀ q ∈ l, q.s = ByteArray.empty) : ∀ i, i ≤ l.length → ∀ j, firstR l i = some j → ∀ m, m < i → ahd IT (toU (l.getD m zI)) (toU (l.getD j zI)) = false
  | 0, _, _, _, m, hm => absurd hm (Nat.not_lt_zero _)
  | i + 1, hi, j, hj, m, hm => by
    have n0 : ∀ m, m < l.length → (l.getD m zI).s = ByteArray.empty := fun m hm => by
      rw [List.getD_eq_getElem?_getD, List.getElem?_eq_getElem hm]
      exact h0 _ (List.getElem_mem hm)
    rw [firstR_succ] at hj
    cases hf : firstR l i with
    | none =>
      have := firstR_none i hf
      rw [hf] at hj
      injection hj with hj
      have e : m = j := by omega
      rw [e]
      exact ahd_irr (T := IT) _
    | some k =>
      have hk := firstR_lt l i k hf
      have ih := firstR_least h0 i (by omega) k hf
      rw [hf] at hj
      unfold bstep at hj
      dsimp only at hj
      rw [iahd_eq (n0 i (by omega)) (n0 k (by omega))] at hj
      split at hj
      · rename_i hlt
        injection hj with hj
        subst hj
        by_cases e : m = i
        · rw [e]; exact ahd_irr (T := IT) _
        · cases hc : ahd IT (toU (l.getD m zI)) (toU (l.getD i zI)) with
          | false => rfl
          | true =>
            rcases ahd_cot (T := IT) (b := toU (l.getD k zI)) hc with h1 | h1
            · rw [ih m (by omega)] at h1; cases h1
            · rw [ahd_asym (T := IT) hlt] at h1; cases h1
      · rename_i hlt
        injection hj with hj
        subst hj
        by_cases e : m = i
        · rw [e]; simpa using hlt
        · exact ih m (by omega)
theorem Rel.first {a : AS Int} {l : List Itm} (h : Rel a l) : (firstR l l.length = none ∧ l = [] ∧ a.xs = []) ∨ ∃ j q, firstR l l.length = some j ∧ l[j]? = some q ∧ toU q = a.xs.getD 0 (tz IT) ∧ 0 < a.xs.length := by
  have hlen := h.len
  cases hf : firstR l l.length with
  | none =>
    have := firstR_none _ hf
    exact .inl ⟨rfl, List.eq_nil_of_length_eq_zero this, List.eq_nil_of_length_eq_zero (by omega)⟩
  | some j =>
    have hj := firstR_lt l _ j hf
    have hq : l[j]? = some l[j] := List.getElem?_eq_getElem hj
    refine .inr ⟨j, l[j], rfl, hq, ?_, by omega⟩
    have hm : l[j] ∈ l := List.getElem_mem hj
    have h0 : 0 < a.xs.length := by omega
    have hu : a.xs.getD 0 (tz IT) ∈ a.xs := by rw [List.getD_eq_getElem?_getD, List.getElem?_eq_getElem h0]; exact List.getElem_mem h0
    have h1 := h.inv.first _ (h.back hm)
    obtain ⟨m, hm2⟩ := List.mem_iff_getElem?.1 ((h.mem _).1 hu)
    have hml : m < l.length := (List.getElem?_eq_some_iff.1 hm2).1
    have h2 := firstR_least h.n0 l.length (Nat.le_refl _) j hf m hml
    rw [getD_some hm2, getD_some hq] at h2
    exact ahd_tot (T := IT) h1 h2
theorem Rel.next {a : AS Int} {l : List Itm} (h : Rel a l) : (firstI l).n = (a.xs.getD 0 (tz IT)).k ∧ (firstI l).at_ = (a.xs.getD 0 (tz IT)).at_ ∧ (firstR l l.length).isSome = decide (0 < a.xs.length) := by
  rcases h.first with ⟨h1, h2, h3⟩ | ⟨j, q, h1, h2, h3, h4⟩
  · rw [firstI, h1, h3]
    exact ⟨rfl, rfl, rfl⟩
  · rw [firstI, h1, ← h3]
    dsimp only
    rw [getD_some h2]
    exact ⟨rfl, rfl, by simp [h4]⟩
theorem Rel.due_ {now : Int} : ∀ (n : Nat) {a : AS Int} {l : List Itm}, Rel a l → l.length = n → (ddue now l).1.map (·.n) = (a.due IT now).1 ∧ Rel (a.due IT now).2 (ddue now l).2 := by
  intro n
  induction n with
  | zero =>
    intro a l h hn
    have e1 : a.xs.length = 0 := by rw [h.len, hn]
    have e2 : l = [] := List.eq_nil_of_length_eq_zero hn
    rw [AS.due, dueR_stop (fun hh => by omega), ddue_stop (fun i hi => by rw [e2] at hi; cases hi)]
    exact ⟨rfl, h⟩
  | succ n ih =>
    intro a l h hn
    rcases h.first with ⟨h1, h2, h3⟩ | ⟨j, q, h1, h2, h3, h4⟩
    · rw [h2] at hn; cases hn
    · by_cases hd : q.at_ ≤ now
      · have hcf := h.inv.cancel_first h4
        have hj := (List.getElem?_eq_some_iff.1 h2).1
        have hk : (a.xs.getD 0 (tz IT)).k = q.n := by rw [← h3]; rfl
        have hat : (a.xs.getD 0 (tz IT)).at_ = q.at_ := by rw [← h3]; rfl
        have hs : a.due IT now = (q.n :: ((a.cancel IT q.n).due IT now).1, ((a.cancel IT q.n).due IT now).2) := by
          rw [← hk, AS.due, ← hcf, dueR, if_pos ⟨h4, by rw [hat]; exact hd⟩]
          rfl
        have hr := h.erase h2
        obtain ⟨i1, i2⟩ := ih hr (by rw [List.length_eraseIdx_of_lt hj]; omega)
        rw [ddue_step h1 (by rw [getD_some h2]; exact hd), hs, getD_some h2]
        refine ⟨?_, i2⟩
        rw [List.map_cons, i1]
        rfl
      · rw [AS.due, dueR_stop (fun hh => hd (by have := hh.2; rw [← h3] at this; exact this)), ddue_stop (fun i hi => by
          rw [h1] at hi
          injection hi with hi
          subst hi
          rw [getD_some h2]
          exact hd)]
        exact ⟨rfl, h⟩
end Go.Proofs.Ytggohplddejniaa.RI
