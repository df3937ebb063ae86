import Derived.Test.YtggohplddejniaaA0
namespace Go.Proofs.Ytggohplddejniaa
open Go
variable {K : Type} {T : KeyT K}

/-! ### The order of timers -/
theorem ahd_iff {a b : Tim K} : ahd T a b = true ↔ a.at_ < b.at_ ∨ (a.at_ = b.at_ ∧ T.lt a.k b.k = true) := by
  simp [ahd]
theorem ahd_cot {a b c : Tim K} (h : ahd T a c = true) : ahd T a b = true ∨ ahd T b c = true := by
  rw [ahd_iff] at *
  rw [ahd_iff]
  by_cases h1 : a.at_ < b.at_
  · exact .inl (.inl h1)
  · by_cases h2 : b.at_ < c.at_
    · exact .inr (.inl h2)
    · rcases h with h | ⟨h3, h4⟩
      · omega
      · have e1 : a.at_ = b.at_ := by omega
        have e2 : b.at_ = c.at_ := by omega
        by_cases e : a.k = b.k
        · rw [e] at h4; exact .inr (.inr ⟨e2, h4⟩)
        · rcases T.tot a.k b.k e with h5 | h5
          · exact .inl (.inr ⟨e1, h5⟩)
          · exact .inr (.inr ⟨e2, T.tr _ _ _ h5 h4⟩)
theorem ahd_irr (a : Tim K) : ahd T a a = false := by
  simp [ahd, T.irr]
theorem ahd_asym {a b : Tim K} (h : ahd T a b = true) : ahd T b a = false := by
  cases h1 : ahd T b a with
  | false => rfl
  | true =>
    rw [ahd_iff] at h h1
    rcases h with h | ⟨h, h2⟩
    · rcases h1 with h1 | ⟨h1, _⟩ <;> omega
    · rcases h1 with h1 | ⟨_, h3⟩
      · omega
      · have := T.tr _ _ _ h2 h3
        rw [T.irr] at this
        cases this
theorem not_ahd_tr {a b c : Tim K} (h1 : ahd T a b = false) (h2 : ahd T b c = false) : ahd T a c = false := by
  cases h : ahd T a c with
  | false => rfl
  | true =>
    rcases ahd_cot (b := b) h with h3 | h3
    · rw [h1] at h3; cases h3
    · rw [h2] at h3; cases h3
theorem ahd_tot {a b : Tim K} (h1 : ahd T a b = false) (h2 : ahd T b a = false) : a = b := by
  obtain ⟨k1, t1⟩ := a
  obtain ⟨k2, t2⟩ := b
  simp only [ahd, Bool.or_eq_false_iff, decide_eq_false_iff_not, Bool.and_eq_false_iff] at h1 h2
  have et : t1 = t2 := by omega
  subst et
  by_cases e : k1 = k2
  · subst e; rfl
  · rcases T.tot k1 k2 e with h | h
    · rcases h1.2 with h3 | h3
      · exact absurd rfl h3
      · rw [h] at h3; cases h3
    · rcases h2.2 with h3 | h3
      · exact absurd rfl h3
      · rw [h] at h3; cases h3

/-! ### One hole -/
/-- The places tell of all timers but the one that is to come into the hole. -/
structure VOK (T : KeyT K) (s : HS K) (t : Tim K) : Prop where
  i : s.i < s.xs.length
  pl : ∀ j u, s.xs[j]? = some u → j ≠ s.i → mget T.ko s.m u.k = some (.int .i64 (j : Int)) ∧ u.k ≠ t.k
  lp : ∀ k v, mget T.ko s.m k = some v → k = t.k ∨ ∃ j u, j ≠ s.i ∧ v = .int .i64 (j : Int) ∧ s.xs[j]? = some u ∧ u.k = k
  nd : (s.m.map (·.1)).Nodup
/-- What is there, with the timer for the hole. -/
def VIn (s : HS K) (t u : Tim K) : Prop := u = t ∨ ∃ j, j ≠ s.i ∧ s.xs[j]? = some u

theorem mget_mset' (m : Pl K) (k k' : K) (v : Value) : (k' = k → mget T.ko (mset T.ko m k v) k' = some v) ∧ (k' ≠ k → mget T.ko (mset T.ko m k v) k' = mget T.ko m k') := by
  constructor
  · intro h; rw [mget_mset, if_pos (@decide_eq_true _ (T.ko.dec k' k) h)]
  · intro h; rw [mget_mset, if_neg (fun hh => h (@of_decide_eq_true _ (T.ko.dec k' k) hh))]
theorem at_some {s : HS K} {j : Nat} {u : Tim K} (h : s.xs[j]? = some u) : s.at T j = u := by
  simp [HS.at, List.getD_eq_getElem?_getD, h]

theorem VOK.mv {s : HS K} {t : Tim K} (h : VOK T s t) {j : Nat} (hj : j < s.xs.length) (hne : j ≠ s.i) : VOK T (s.mv T j) t ∧ ∀ u, VIn (s.mv T j) t u ↔ VIn s t u := by
  have hu := HS.at_get T hj
  obtain ⟨p1, p2⟩ := h.pl j _ hu hne
  have hget : ∀ l, (s.mv T j).xs[l]? = if s.i = l then some (s.at T j) else s.xs[l]? := by
    intro l
    simp only [HS.mv, List.getElem?_set]
    split
    · rw [if_pos h.i]
    · rfl
  refine ⟨⟨by rw [HS.mv_len]; exact hj, ?_, ?_, mset_nodup h.nd _ _⟩, ?_⟩
  · intro l u hl hlj
    rw [hget] at hl
    split at hl
    · rename_i e
      subst e
      cases hl
      exact ⟨(mget_mset' _ _ _ _).1 rfl, p2⟩
    · rename_i e
      obtain ⟨q1, q2⟩ := h.pl l u hl (fun e' => e e'.symm)
      refine ⟨?_, q2⟩
      rw [show (s.mv T j).m = mset T.ko s.m (s.at T j).k (.int .i64 (s.i : Int)) from rfl, (mget_mset' _ _ _ _).2 ?_]
      · exact q1
      · intro e'
        rw [e', p1] at q1
        injection q1 with q1
        injection q1 with _ q1
        have : j = l := by omega
        exact hlj this.symm
  · intro k v hk
    by_cases e : k = (s.at T j).k
    · rw [show (s.mv T j).m = mset T.ko s.m (s.at T j).k (.int .i64 (s.i : Int)) from rfl, (mget_mset' _ _ _ _).1 e] at hk
      cases hk
      exact .inr ⟨s.i, s.at T j, fun e' => hne e'.symm, rfl, by rw [hget, if_pos rfl], e.symm⟩
    · rw [show (s.mv T j).m = mset T.ko s.m (s.at T j).k (.int .i64 (s.i : Int)) from rfl, (mget_mset' _ _ _ _).2 e] at hk
      rcases h.lp k v hk with h1 | ⟨l, u, h1, h2, h3, h4⟩
      · exact .inl h1
      · refine .inr ⟨l, u, ?_, h2, by rw [hget, if_neg (fun e' => h1 e'.symm)]; exact h3, h4⟩
        intro e'
        have : (s.mv T j).i = j := rfl
        rw [this] at e'
        subst e'
        rw [hu] at h3
        cases h3
        exact e h4.symm
  · intro u
    constructor
    · rintro (h1 | ⟨l, h1, h2⟩)
      · exact .inl h1
      · rw [hget] at h2
        split at h2
        · cases h2; exact .inr ⟨j, hne, hu⟩
        · rename_i e; exact .inr ⟨l, fun e' => e e'.symm, h2⟩
    · rintro (h1 | ⟨l, h1, h2⟩)
      · exact .inl h1
      · by_cases e : l = j
        · subst e
          rw [hu] at h2
          cases h2
          exact .inr ⟨s.i, fun e' => hne e'.symm, by rw [hget, if_pos rfl]⟩
        · exact .inr ⟨l, e, by rw [hget, if_neg (fun e' => h1 e'.symm)]; exact h2⟩

/-- In order, but around the hole. -/
structure Ord (T : KeyT K) (s : HS K) : Prop where
  u : ∀ c, 0 < c → c < s.xs.length → c ≠ s.i → (c - 1) / 2 ≠ s.i → ahd T (s.at T c) (s.at T ((c - 1) / 2)) = false
  b : 0 < s.i → ∀ c, 0 < c → c < s.xs.length → (c - 1) / 2 = s.i → ahd T (s.at T c) (s.at T ((s.i - 1) / 2)) = false

theorem mv_at {s : HS K} {j : Nat} (hi : s.i < s.xs.length) (l : Nat) : (s.mv T j).at T l = if s.i = l then s.at T j else s.at T l := by
  simp only [HS.at, HS.mv, List.getD_eq_getElem?_getD, List.getElem?_set, hi, if_true]
  split <;> rfl

theorem Ord.up {s : HS K} (h : Ord T s) (hi : s.i < s.xs.length) (h0 : 0 < s.i) : Ord T (s.mv T ((s.i - 1) / 2)) := by
  have hp : (s.i - 1) / 2 < s.i := by omega
  refine ⟨fun c c0 cl ci cp => ?_, fun p0 c c0 cl cp => ?_⟩
  · rw [HS.mv_len] at cl
    have ci' : c ≠ (s.i - 1) / 2 := ci
    have cp' : (c - 1) / 2 ≠ (s.i - 1) / 2 := cp
    have hci : c ≠ s.i := fun e => cp' (by rw [e])
    rw [mv_at hi, mv_at hi, if_neg (fun e => hci e.symm)]
    split
    · rename_i e
      exact h.b h0 c c0 cl e.symm
    · rename_i e
      exact h.u c c0 cl hci (fun e' => e e'.symm)
  · rw [HS.mv_len] at cl
    have cp' : (c - 1) / 2 = (s.i - 1) / 2 := cp
    have p0' : 0 < (s.i - 1) / 2 := p0
    show ahd T ((s.mv T ((s.i - 1) / 2)).at T c) ((s.mv T ((s.i - 1) / 2)).at T (((s.i - 1) / 2 - 1) / 2)) = false
    rw [mv_at hi, mv_at hi, if_neg (by omega : ¬ s.i = ((s.i - 1) / 2 - 1) / 2)]
    have hpp := h.u ((s.i - 1) / 2) p0' (by omega) (by omega) (by omega)
    split
    · exact hpp
    · rename_i e
      have h1 := h.u c c0 cl (fun e' => e e'.symm) (by omega)
      rw [cp'] at h1
      exact not_ahd_tr h1 hpp

theorem upR_ok {t : Tim K} : ∀ (n : Nat) (s : HS K), s.i ≤ n → VOK T s t → Ord T s →
    VOK T (upR T t n s) t ∧ Ord T (upR T t n s) ∧ (∀ u, VIn (upR T t n s) t u ↔ VIn s t u) ∧ (0 < (upR T t n s).i → ahd T t ((upR T t n s).at T (((upR T t n s).i - 1) / 2)) = false)
  | 0, s, hn, hv, ho => ⟨hv, ho, fun _ => Iff.rfl, fun h => by
      have : (upR T t 0 s).i = s.i := rfl
      omega⟩
  | n + 1, s, hn, hv, ho => by
    rw [upR]
    split
    · rename_i hc
      have hj : (s.i - 1) / 2 < s.xs.length := by have := hv.i; omega
      obtain ⟨h1, h2⟩ := hv.mv hj (by omega)
      obtain ⟨g1, g2, g3, g4⟩ := upR_ok n (s.mv T ((s.i - 1) / 2)) (by show (s.i - 1) / 2 ≤ n; omega) h1 (ho.up hv.i hc.1)
      exact ⟨g1, g2, fun u => (g3 u).trans (h2 u), g4⟩
    · rename_i hc
      refine ⟨hv, ho, fun _ => Iff.rfl, fun h0 => ?_⟩
      cases h : ahd T t (s.at T ((s.i - 1) / 2)) with
      | false => rfl
      | true => exact absurd ⟨h0, h⟩ hc

theorem Ord.down {s : HS K} {t : Tim K} (h : Ord T s) (hi : s.i < s.xs.length) (_ht : 0 < s.i → ahd T t (s.at T ((s.i - 1) / 2)) = false) (hk : s.kid T < s.xs.length) (hlt : ahd T (s.at T (s.kid T)) t = true) :
    Ord T (s.mv T (s.kid T)) ∧ (0 < (s.mv T (s.kid T)).i → ahd T t ((s.mv T (s.kid T)).at T (((s.mv T (s.kid T)).i - 1) / 2)) = false) := by
  have hkp : (s.kid T - 1) / 2 = s.i ∧ s.i < s.kid T := by
    unfold HS.kid
    split <;> omega
  have hmin : ∀ c, 0 < c → c < s.xs.length → (c - 1) / 2 = s.i → ahd T (s.at T c) (s.at T (s.kid T)) = false := by
    intro c c0 cl cp
    unfold HS.kid
    split
    · rename_i hc
      by_cases e : c = 2 * s.i + 2
      · rw [e]; exact ahd_irr _
      · have : c = 2 * s.i + 1 := by omega
        rw [this]; exact ahd_asym hc.2
    · rename_i hc
      by_cases e : c = 2 * s.i + 1
      · rw [e]; exact ahd_irr _
      · have e2 : c = 2 * s.i + 2 := by omega
        rw [e2]
        cases h9 : ahd T (s.at T (2 * s.i + 2)) (s.at T (2 * s.i + 1)) with
        | false => rfl
        | true => exact absurd ⟨by omega, h9⟩ hc
  refine ⟨⟨fun c c0 cl ci cp => ?_, fun p0 c c0 cl cp => ?_⟩, fun _ => ?_⟩
  · rw [HS.mv_len] at cl
    have ci' : c ≠ s.kid T := ci
    have cp' : (c - 1) / 2 ≠ s.kid T := cp
    rw [mv_at hi, mv_at hi]
    by_cases e : s.i = c
    · rw [if_pos e, if_neg (by omega)]
      subst e
      exact h.b c0 (s.kid T) (by omega) hk hkp.1
    · rw [if_neg e]
      split
      · rename_i e2
        exact hmin c c0 cl e2.symm
      · rename_i e2
        exact h.u c c0 cl (fun e' => e e'.symm) (fun e' => e2 e'.symm)
  · rw [HS.mv_len] at cl
    have cp' : (c - 1) / 2 = s.kid T := cp
    show ahd T ((s.mv T (s.kid T)).at T c) ((s.mv T (s.kid T)).at T ((s.kid T - 1) / 2)) = false
    rw [mv_at hi, mv_at hi, hkp.1, if_pos rfl, if_neg (by omega : ¬ s.i = c)]
    have := h.u c c0 cl (by omega) (by omega)
    rw [cp'] at this
    exact this
  · show ahd T t ((s.mv T (s.kid T)).at T ((s.kid T - 1) / 2)) = false
    rw [mv_at hi, hkp.1, if_pos rfl]
    exact ahd_asym hlt

/-- All in order. -/
def Heap (T : KeyT K) (xs : List (Tim K)) : Prop := ∀ c, 0 < c → c < xs.length → ahd T (xs.getD c (tz T)) (xs.getD ((c - 1) / 2) (tz T)) = false

theorem downR_ok {t : Tim K} : ∀ (n : Nat) (s : HS K), s.xs.length ≤ n + s.i → VOK T s t → Ord T s → (0 < s.i → ahd T t (s.at T ((s.i - 1) / 2)) = false) →
    VOK T (downR T t n s) t ∧ (∀ u, VIn (downR T t n s) t u ↔ VIn s t u) ∧ Heap T ((downR T t n s).xs.set (downR T t n s).i t)
  | n, s, hn, hv, ho, ht => by
    have stop : ¬ (s.kid T < s.xs.length ∧ ahd T (s.at T (s.kid T)) t = true) → VOK T s t ∧ (∀ u, VIn s t u ↔ VIn s t u) ∧ Heap T (s.xs.set s.i t) := by
      intro hc
      refine ⟨hv, fun _ => Iff.rfl, fun c c0 cl => ?_⟩
      rw [List.length_set] at cl
      have hg : ∀ l, (s.xs.set s.i t).getD l (tz T) = if s.i = l then t else s.at T l := by
        intro l
        simp only [HS.at, List.getD_eq_getElem?_getD, List.getElem?_set]
        split
        · rw [if_pos hv.i]; rfl
        · rfl
      rw [hg, hg]
      by_cases e : s.i = c
      · rw [if_pos e, if_neg (by omega)]
        subst e
        exact ht c0
      · rw [if_neg e]
        split
        · rename_i e2
          -- a child of the hole
          have hkid : s.kid T < s.xs.length := by unfold HS.kid; split <;> omega
          have hk : ahd T (s.at T (s.kid T)) t = false := by
            cases h9 : ahd T (s.at T (s.kid T)) t with
            | false => rfl
            | true => exact absurd ⟨hkid, h9⟩ hc
          refine not_ahd_tr ?_ hk
          unfold HS.kid
          split
          · rename_i h7
            by_cases e3 : c = 2 * s.i + 2
            · rw [e3]; exact ahd_irr _
            · have : c = 2 * s.i + 1 := by omega
              rw [this]; exact ahd_asym h7.2
          · rename_i h7
            by_cases e3 : c = 2 * s.i + 1
            · rw [e3]; exact ahd_irr _
            · have e4 : c = 2 * s.i + 2 := by omega
              rw [e4]
              cases h9 : ahd T (s.at T (2 * s.i + 2)) (s.at T (2 * s.i + 1)) with
              | false => rfl
              | true => exact absurd ⟨by omega, h9⟩ h7
        · rename_i e2
          exact ho.u c c0 cl (fun e' => e e'.symm) (fun e' => e2 e'.symm)
    match n with
    | 0 => exact absurd hv.i (by omega)
    | n + 1 =>
      rw [downR]
      split
      · rename_i hc
        have hne : s.kid T ≠ s.i := by unfold HS.kid; split <;> omega
        have hlt : s.i < s.kid T := by unfold HS.kid; split <;> omega
        obtain ⟨h1, h2⟩ := hv.mv hc.1 hne
        obtain ⟨h3, h4⟩ := ho.down hv.i ht hc.1 hc.2
        obtain ⟨g1, g2, g3⟩ := downR_ok n (s.mv T (s.kid T)) (by rw [HS.mv_len]; show _ ≤ n + s.kid T; omega) h1 h3 h4
        exact ⟨g1, fun u => (g2 u).trans (h2 u), g3⟩
      · rename_i hc
        exact stop hc

/-- All is well with an alarm. -/
structure Inv (T : KeyT K) (a : AS K) : Prop where
  pl : ∀ (j : Nat) (u : Tim K), a.xs[j]? = some u → mget T.ko a.m u.k = some (.int .i64 (j : Int))
  lp : ∀ k v, mget T.ko a.m k = some v → ∃ (j : Nat) (u : Tim K), v = .int .i64 (j : Int) ∧ a.xs[j]? = some u ∧ u.k = k
  nd : (a.m.map (·.1)).Nodup
  heap : Heap T a.xs

theorem VOK.lay {s : HS K} {t : Tim K} (h : VOK T s t) (hh : Heap T (s.xs.set s.i t)) : Inv T ⟨(s.lay T t).xs, (s.lay T t).m⟩ ∧ ∀ u, u ∈ (s.lay T t).xs ↔ VIn s t u := by
  have hget : ∀ l, (s.lay T t).xs[l]? = if s.i = l then some t else s.xs[l]? := by
    intro l
    simp only [HS.lay, List.getElem?_set]
    split
    · rw [if_pos h.i]
    · rfl
  refine ⟨⟨?_, ?_, mset_nodup h.nd _ _, hh⟩, fun u => ?_⟩
  · intro j u hj
    rw [hget] at hj
    split at hj
    · rename_i e; subst e; cases hj; exact (mget_mset' _ _ _ _).1 rfl
    · rename_i e
      obtain ⟨q1, q2⟩ := h.pl j u hj (fun e' => e e'.symm)
      show mget T.ko (mset T.ko s.m t.k (.int .i64 (s.i : Int))) u.k = _
      rw [(mget_mset' _ _ _ _).2 q2]
      exact q1
  · intro k v hk
    by_cases e : k = t.k
    · have hk' : mget T.ko (mset T.ko s.m t.k (.int .i64 (s.i : Int))) k = some v := hk
      rw [(mget_mset' _ _ _ _).1 e] at hk'
      cases hk'
      exact ⟨s.i, t, rfl, by rw [hget, if_pos rfl], e.symm⟩
    · have hk' : mget T.ko (mset T.ko s.m t.k (.int .i64 (s.i : Int))) k = some v := hk
      rw [(mget_mset' _ _ _ _).2 e] at hk'
      rcases h.lp k v hk' with h1 | ⟨j, u, h1, h2, h3, h4⟩
      · exact absurd h1 e
      · exact ⟨j, u, h2, by rw [hget, if_neg (fun e' => h1 e'.symm)]; exact h3, h4⟩
  · constructor
    · intro hu
      obtain ⟨l, hl⟩ := List.getElem?_of_mem hu
      rw [hget] at hl
      split at hl
      · cases hl; exact .inl rfl
      · rename_i e; exact .inr ⟨l, fun e' => e e'.symm, hl⟩
    · rintro (h1 | ⟨l, h1, h2⟩)
      · subst h1
        exact List.mem_of_getElem? (i := s.i) (by rw [hget, if_pos rfl])
      · exact List.mem_of_getElem? (i := l) (by rw [hget, if_neg (fun e' => h1 e'.symm)]; exact h2)

/-- sift, from a hole whose timer lies there already. -/
theorem siftR_ok {s : HS K} {t : Tim K} (ht : s.at T s.i = t) (hv : VOK T s t) (ho : Ord T s) : Inv T (.fin T s) ∧ ∀ u, u ∈ (AS.fin T s).xs ↔ VIn s t u := by
  obtain ⟨h1, h2, h3, h4⟩ := upR_ok (T := T) (t := t) s.i s (Nat.le_refl _) hv ho
  obtain ⟨g1, g2, g3⟩ := downR_ok (T := T) (t := t) s.xs.length (upR T t s.i s) (by rw [upR_len]; omega) h1 h2 h4
  obtain ⟨k1, k2⟩ := g1.lay g3
  unfold AS.fin siftR
  rw [ht]
  exact ⟨k1, fun u => (k2 u).trans ((g2 u).trans (h3 u))⟩

/-! ### What set and cancel do -/
theorem Inv.wf {a : AS K} (h : Inv T a) : a.WF T := fun k v hk => by
  obtain ⟨j, u, h1, h2, _⟩ := h.lp k v hk
  exact ⟨j, h1, (List.getElem?_eq_some_iff.1 h2).1⟩
theorem Inv.keys {a : AS K} (h : Inv T a) {u v : Tim K} (hu : u ∈ a.xs) (hv : v ∈ a.xs) (e : u.k = v.k) : u = v := by
  obtain ⟨i, hi⟩ := List.getElem?_of_mem hu
  obtain ⟨j, hj⟩ := List.getElem?_of_mem hv
  have h1 := h.pl i u hi
  have h2 := h.pl j v hj
  rw [e, h2] at h1
  injection h1 with h1
  injection h1 with _ h1
  have : i = j := by omega
  subst this
  rw [hi] at hj
  cases hj
  rfl
theorem Inv.new : Inv T ⟨[], []⟩ := ⟨(fun j u h => by simp at h), (fun k v h => by cases h), by simp, (fun c _ h => by simp at h)⟩

theorem Inv.set {a : AS K} (h : Inv T a) (k : K) (t : Int) : Inv T (a.set T k t) ∧ (∀ u, u ∈ (a.set T k t).xs ↔ u = ⟨k, t⟩ ∨ (u ∈ a.xs ∧ u.k ≠ k)) ∧ (a.set T k t).xs.length = a.xs.length + if a.has T k = true then 0 else 1 := by
  cases hm : mget T.ko a.m k with
  | some v =>
    obtain ⟨i, w, rfl, hi, hk⟩ := h.lp k v hm
    have hlt := (List.getElem?_eq_some_iff.1 hi).1
    have hset : a.set T k t = .fin T (HS.lay T ⟨a.xs, a.m, i⟩ ⟨k, t⟩) := by rw [AS.set, hm]; rfl
    have hat : ∀ l, (HS.lay T ⟨a.xs, a.m, i⟩ ⟨k, t⟩).at T l = if i = l then ⟨k, t⟩ else a.xs.getD l (tz T) := by
      intro l
      simp only [HS.at, HS.lay, List.getD_eq_getElem?_getD, List.getElem?_set, hlt, if_true]
      split <;> rfl
    have hget : ∀ l, (HS.lay T ⟨a.xs, a.m, i⟩ ⟨k, t⟩).xs[l]? = if i = l then some ⟨k, t⟩ else a.xs[l]? := by
      intro l
      simp only [HS.lay, List.getElem?_set, hlt, if_true]
    have hne : ∀ j u, a.xs[j]? = some u → j ≠ i → u.k ≠ k := fun j u hj hji e => by
      have := h.pl j u hj
      rw [e, hm] at this
      injection this with this
      injection this with _ this
      exact hji (by omega)
    have hv : VOK T (HS.lay T ⟨a.xs, a.m, i⟩ ⟨k, t⟩) ⟨k, t⟩ := by
      refine ⟨by simpa [HS.lay] using hlt, ?_, ?_, mset_nodup h.nd _ _⟩
      · intro j u hj hji
        have hji' : j ≠ i := hji
        rw [hget, if_neg (fun e => hji' e.symm)] at hj
        have hk' := hne j u hj hji'
        refine ⟨?_, hk'⟩
        show mget T.ko (mset T.ko a.m k _) u.k = _
        rw [(mget_mset' _ _ _ _).2 hk']
        exact h.pl j u hj
      · intro k' v hk'
        by_cases e : k' = k
        · exact .inl e
        · have hk2 : mget T.ko (mset T.ko a.m k (.int .i64 (i : Int))) k' = some v := hk'
          rw [(mget_mset' _ _ _ _).2 e] at hk2
          obtain ⟨j, u, h1, h2, h3⟩ := h.lp k' v hk2
          have hji : j ≠ i := by
            intro e'
            subst e'
            rw [hi] at h2
            cases h2
            exact e (h3.symm.trans hk)
          exact .inr ⟨j, u, hji, h1, by rw [hget, if_neg (fun e => hji e.symm)]; exact h2, h3⟩
    have ho : Ord T (HS.lay T ⟨a.xs, a.m, i⟩ ⟨k, t⟩) := by
      refine ⟨fun c c0 cl ci cp => ?_, fun i0 c c0 cl cp => ?_⟩
      · have ci' : c ≠ i := ci
        have cp' : (c - 1) / 2 ≠ i := cp
        rw [hat, hat, if_neg (fun e => ci' e.symm), if_neg (fun e => cp' e.symm)]
        exact h.heap c c0 (by simpa [HS.lay] using cl)
      · have cp' : (c - 1) / 2 = i := cp
        have i0' : 0 < i := i0
        have cl' : c < a.xs.length := by simpa [HS.lay] using cl
        show ahd T ((HS.lay T ⟨a.xs, a.m, i⟩ ⟨k, t⟩).at T c) ((HS.lay T ⟨a.xs, a.m, i⟩ ⟨k, t⟩).at T ((i - 1) / 2)) = false
        rw [hat, hat, if_neg (by omega), if_neg (by omega)]
        have h1 := h.heap c c0 cl'
        have h2 := h.heap i i0' hlt
        rw [cp'] at h1
        exact not_ahd_tr h1 h2
    obtain ⟨g1, g2⟩ := siftR_ok (T := T) (t := ⟨k, t⟩) (by show (HS.lay T ⟨a.xs, a.m, i⟩ ⟨k, t⟩).at T i = _; rw [hat, if_pos rfl]) hv ho
    rw [hset]
    refine ⟨g1, fun u => (g2 u).trans ?_, ?_⟩
    · constructor
      · rintro (h1 | ⟨j, h1, h2⟩)
        · exact .inl h1
        · have h1' : j ≠ i := h1
          rw [hget, if_neg (fun e => h1' e.symm)] at h2
          exact .inr ⟨List.mem_of_getElem? h2, hne j u h2 h1'⟩
      · rintro (h1 | ⟨h1, h2⟩)
        · exact .inl h1
        · obtain ⟨j, hj⟩ := List.getElem?_of_mem h1
          have hji : j ≠ i := by
            intro e
            subst e
            rw [hi] at hj
            cases hj
            exact h2 hk
          exact .inr ⟨j, hji, by rw [hget, if_neg (fun e => hji e.symm)]; exact hj⟩
    · rw [show a.has T k = true by simp [AS.has, hm], if_pos rfl]
      show (siftR T _).xs.length = _
      rw [siftR_len]
      simp [HS.lay]
  | none =>
    have hset : a.set T k t = .fin T (HS.lay T ⟨a.xs ++ [tz T], a.m, a.xs.length⟩ ⟨k, t⟩) := by rw [AS.set, hm]
    have hno : ∀ u ∈ a.xs, u.k ≠ k := fun u hu e => by
      obtain ⟨j, hj⟩ := List.getElem?_of_mem hu
      have := h.pl j u hj
      rw [e, hm] at this
      cases this
    have hget : ∀ l, (HS.lay T ⟨a.xs ++ [tz T], a.m, a.xs.length⟩ ⟨k, t⟩).xs[l]? = if a.xs.length = l then some ⟨k, t⟩ else a.xs[l]? := by
      intro l
      simp only [HS.lay, List.getElem?_set, List.length_append, List.length_cons, List.length_nil]
      split
      · rw [if_pos (by omega)]
      · rename_i e
        rcases Nat.lt_or_ge l a.xs.length with h1 | h1
        · rw [List.getElem?_append_left h1]
        · rw [List.getElem?_eq_none (by simp; omega), List.getElem?_eq_none h1]
    have hat : ∀ l, (HS.lay T ⟨a.xs ++ [tz T], a.m, a.xs.length⟩ ⟨k, t⟩).at T l = if a.xs.length = l then ⟨k, t⟩ else a.xs.getD l (tz T) := by
      intro l
      simp only [HS.at, List.getD_eq_getElem?_getD, hget]
      split <;> rfl
    have hv : VOK T (HS.lay T ⟨a.xs ++ [tz T], a.m, a.xs.length⟩ ⟨k, t⟩) ⟨k, t⟩ := by
      refine ⟨by simp [HS.lay], ?_, ?_, mset_nodup h.nd _ _⟩
      · intro j u hj hji
        have hji' : j ≠ a.xs.length := hji
        rw [hget, if_neg (fun e => hji' e.symm)] at hj
        have hk' := hno u (List.mem_of_getElem? hj)
        refine ⟨?_, hk'⟩
        show mget T.ko (mset T.ko a.m k _) u.k = _
        rw [(mget_mset' _ _ _ _).2 hk']
        exact h.pl j u hj
      · intro k' v hk'
        by_cases e : k' = k
        · exact .inl e
        · have hk2 : mget T.ko (mset T.ko a.m k (.int .i64 (a.xs.length : Int))) k' = some v := hk'
          rw [(mget_mset' _ _ _ _).2 e] at hk2
          obtain ⟨j, u, h1, h2, h3⟩ := h.lp k' v hk2
          have hji : j ≠ a.xs.length := Nat.ne_of_lt (List.getElem?_eq_some_iff.1 h2).1
          exact .inr ⟨j, u, hji, h1, by rw [hget, if_neg (fun e => hji e.symm)]; exact h2, h3⟩
    have ho : Ord T (HS.lay T ⟨a.xs ++ [tz T], a.m, a.xs.length⟩ ⟨k, t⟩) := by
      refine ⟨fun c c0 cl ci cp => ?_, fun i0 c c0 cl cp => ?_⟩
      · have ci' : c ≠ a.xs.length := ci
        have cp' : (c - 1) / 2 ≠ a.xs.length := cp
        have cl' : c < a.xs.length + 1 := by simpa [HS.lay] using cl
        rw [hat, hat, if_neg (fun e => ci' e.symm), if_neg (fun e => cp' e.symm)]
        exact h.heap c c0 (by omega)
      · have cp' : (c - 1) / 2 = a.xs.length := cp
        have cl' : c < a.xs.length + 1 := by simpa [HS.lay] using cl
        omega
    obtain ⟨g1, g2⟩ := siftR_ok (T := T) (t := ⟨k, t⟩) (by show (HS.lay T ⟨a.xs ++ [tz T], a.m, a.xs.length⟩ ⟨k, t⟩).at T a.xs.length = _; rw [hat, if_pos rfl]) hv ho
    rw [hset]
    refine ⟨g1, fun u => (g2 u).trans ?_, ?_⟩
    · constructor
      · rintro (h1 | ⟨j, h1, h2⟩)
        · exact .inl h1
        · have h1' : j ≠ a.xs.length := h1
          rw [hget, if_neg (fun e => h1' e.symm)] at h2
          exact .inr ⟨List.mem_of_getElem? h2, hno u (List.mem_of_getElem? h2)⟩
      · rintro (h1 | ⟨h1, h2⟩)
        · exact .inl h1
        · obtain ⟨j, hj⟩ := List.getElem?_of_mem h1
          have hji : j ≠ a.xs.length := Nat.ne_of_lt (List.getElem?_eq_some_iff.1 hj).1
          exact .inr ⟨j, hji, by rw [hget, if_neg (fun e => hji e.symm)]; exact hj⟩
    · rw [show a.has T k = false by simp [AS.has, hm]]
      show (siftR T _).xs.length = _
      rw [siftR_len]
      simp [HS.lay]

theorem mget_mdel' {m : Pl K} (h : (m.map (·.1)).Nodup) (k k' : K) : (k' = k → mget T.ko (mdel T.ko m k) k' = none) ∧ (k' ≠ k → mget T.ko (mdel T.ko m k) k' = mget T.ko m k') := by
  constructor
  · intro e; rw [mget_mdel h, if_pos (@decide_eq_true _ (T.ko.dec k' k) e)]
  · intro e; rw [mget_mdel h, if_neg (fun hh => e (@of_decide_eq_true _ (T.ko.dec k' k) hh))]

theorem Inv.cancel {a : AS K} (h : Inv T a) (k : K) : Inv T (a.cancel T k) ∧ (∀ u, u ∈ (a.cancel T k).xs ↔ u ∈ a.xs ∧ u.k ≠ k) ∧ (a.cancel T k).xs.length = a.xs.length - if a.has T k = true then 1 else 0 := by
  cases hm : mget T.ko a.m k with
  | none =>
    have hno : ∀ u ∈ a.xs, u.k ≠ k := fun u hu e => by
      obtain ⟨j, hj⟩ := List.getElem?_of_mem hu
      have := h.pl j u hj
      rw [e, hm] at this
      cases this
    have hc : a.cancel T k = a := by rw [AS.cancel, hm]
    rw [hc]
    exact ⟨h, fun u => ⟨fun hu => ⟨hu, hno u hu⟩, fun hu => hu.1⟩, by simp [AS.has, hm]⟩
  | some v =>
    obtain ⟨i, w, rfl, hi, hk⟩ := h.lp k v hm
    have hlt := (List.getElem?_eq_some_iff.1 hi).1
    have hhas : a.has T k = true := by simp [AS.has, hm]
    have hne : ∀ j u, a.xs[j]? = some u → j ≠ i → u.k ≠ k := fun j u hj hji e => by
      have := h.pl j u hj
      rw [e, hm] at this
      injection this with this
      injection this with _ this
      exact hji (by omega)
    obtain ⟨n, hn⟩ : ∃ n, a.xs.length = n + 1 := ⟨a.xs.length - 1, by omega⟩
    by_cases hin : i < n
    · obtain ⟨l, hl⟩ : ∃ l, a.xs[n]? = some l := ⟨_, List.getElem?_eq_getElem (by omega)⟩
      have hlast : a.xs.getD n (tz T) = l := by simp [List.getD_eq_getElem?_getD, hl]
      have hlk : l.k ≠ k := hne n l hl (by omega)
      have hnl : ∀ j u, a.xs[j]? = some u → j ≠ n → u.k ≠ l.k := fun j u hj hjn e => by
        have h1 := h.pl j u hj
        have h2 := h.pl n l hl
        rw [e, h2] at h1
        injection h1 with h1
        injection h1 with _ h1
        exact hjn (by omega)
      have hc : a.cancel T k = .fin T (HS.lay T ⟨a.xs.take n, mdel T.ko a.m k, i⟩ l) := by
        rw [AS.cancel, hm]
        simp only [hn, Nat.add_sub_cancel, hlast]
        exact if_pos hin
      obtain ⟨s, hs⟩ : ∃ s : HS K, s = HS.lay T ⟨a.xs.take n, mdel T.ko a.m k, i⟩ l := ⟨_, rfl⟩
      have hsi : s.i = i := by rw [hs]; rfl
      have hsl : s.xs.length = n := by rw [hs]; simp [HS.lay, hn]
      have hsm : s.m = mset T.ko (mdel T.ko a.m k) l.k (.int .i64 (i : Int)) := by rw [hs]; rfl
      have hget : ∀ j, s.xs[j]? = if i = j then some l else if j < n then a.xs[j]? else none := by
        intro j
        rw [hs]
        simp only [HS.lay, List.getElem?_set, List.length_take, hn]
        split
        · rw [if_pos (by omega)]
        · rw [List.getElem?_take]
      have hat : ∀ j, j < n → s.at T j = if i = j then l else a.xs.getD j (tz T) := by
        intro j hj
        simp only [HS.at, List.getD_eq_getElem?_getD, hget, hj, if_true]
        split <;> rfl
      have hv : VOK T s l := by
        refine ⟨by rw [hsi, hsl]; exact hin, ?_, ?_, by rw [hsm]; exact mset_nodup (mdel_nodup h.nd _) _ _⟩
        · intro j u hj hji
          rw [hsi] at hji
          rw [hget, if_neg (fun e => hji e.symm)] at hj
          split at hj
          · rename_i hjn
            have h1 := hne j u hj hji
            have h2 := hnl j u hj (by omega)
            refine ⟨?_, h2⟩
            rw [hsm, (mget_mset' _ _ _ _).2 h2, (mget_mdel' h.nd _ _).2 h1]
            exact h.pl j u hj
          · cases hj
        · intro k' v hk'
          by_cases e : k' = l.k
          · exact .inl e
          · rw [hsm, (mget_mset' _ _ _ _).2 e] at hk'
            by_cases e2 : k' = k
            · rw [(mget_mdel' h.nd _ _).1 e2] at hk'; cases hk'
            · rw [(mget_mdel' h.nd _ _).2 e2] at hk'
              obtain ⟨j, u, h1, h2, h3⟩ := h.lp k' v hk'
              have hj := (List.getElem?_eq_some_iff.1 h2).1
              have hji : j ≠ i := by
                intro e'
                subst e'
                rw [hi] at h2
                cases h2
                exact e2 (h3.symm.trans hk)
              have hjn : j ≠ n := by
                intro e'
                subst e'
                rw [hl] at h2
                cases h2
                exact e h3.symm
              exact .inr ⟨j, u, by rw [hsi]; exact hji, h1, by rw [hget, if_neg (fun e => hji e.symm), if_pos (by omega)]; exact h2, h3⟩
      have ho : Ord T s := by
        refine ⟨fun c c0 cl ci cp => ?_, fun i0 c c0 cl cp => ?_⟩
        · rw [hsl] at cl
          rw [hsi] at ci cp
          rw [hat c cl, hat _ (by omega), if_neg (fun e => ci e.symm), if_neg (fun e => cp e.symm)]
          exact h.heap c c0 (by omega)
        · rw [hsl] at cl
          rw [hsi] at cp i0 ⊢
          rw [hat c cl, hat _ (by omega), if_neg (by omega), if_neg (by omega)]
          have h1 := h.heap c c0 (by omega)
          have h2 := h.heap i i0 hlt
          rw [cp] at h1
          exact not_ahd_tr h1 h2
      obtain ⟨g1, g2⟩ := siftR_ok (T := T) (t := l) (by rw [hsi, hat i hin, if_pos rfl]) hv ho
      rw [hc, ← hs]
      refine ⟨g1, fun u => (g2 u).trans ?_, ?_⟩
      · constructor
        · rintro (h1 | ⟨j, h1, h2⟩)
          · subst h1; exact ⟨List.mem_of_getElem? hl, hlk⟩
          · rw [hsi] at h1
            rw [hget, if_neg (fun e => h1 e.symm)] at h2
            split at h2
            · exact ⟨List.mem_of_getElem? h2, hne j u h2 h1⟩
            · cases h2
        · rintro ⟨h1, h2⟩
          obtain ⟨j, hj⟩ := List.getElem?_of_mem h1
          have hjl := (List.getElem?_eq_some_iff.1 hj).1
          have hji : j ≠ i := by
            intro e
            subst e
            rw [hi] at hj
            cases hj
            exact h2 hk
          by_cases hjn : j = n
          · subst hjn
            rw [hl] at hj
            cases hj
            exact .inl rfl
          · exact .inr ⟨j, by rw [hsi]; exact hji, by rw [hget, if_neg (fun e => hji e.symm), if_pos (by omega)]; exact hj⟩
      · rw [if_pos hhas]
        show (siftR T s).xs.length = _
        rw [siftR_len, hsl, hn]
        rfl
    · have hin' : i = n := by omega
      subst hin'
      have hc : a.cancel T k = ⟨a.xs.take i, mdel T.ko a.m k⟩ := by
        rw [AS.cancel, hm]
        simp only [hn, Nat.add_sub_cancel]
        exact if_neg hin
      rw [hc]
      have hget : ∀ j, (a.xs.take i)[j]? = if j < i then a.xs[j]? else none := fun j => List.getElem?_take
      refine ⟨⟨?_, ?_, mdel_nodup h.nd _, ?_⟩, fun u => ?_, by rw [if_pos hhas]; simp [hn]⟩
      · intro j u hj
        have hj' : (a.xs.take i)[j]? = some u := hj
        rw [hget] at hj'
        split at hj'
        · show mget T.ko (mdel T.ko a.m k) u.k = _
          rw [(mget_mdel' h.nd _ _).2 (hne j u hj' (by omega))]
          exact h.pl j u hj'
        · cases hj'
      · intro k' v hk'
        have hk2 : mget T.ko (mdel T.ko a.m k) k' = some v := hk'
        by_cases e2 : k' = k
        · rw [(mget_mdel' h.nd _ _).1 e2] at hk2; cases hk2
        · rw [(mget_mdel' h.nd _ _).2 e2] at hk2
          obtain ⟨j, u, h1, h2, h3⟩ := h.lp k' v hk2
          have hj := (List.getElem?_eq_some_iff.1 h2).1
          have hji : j ≠ i := by
            intro e'
            subst e'
            rw [hi] at h2
            cases h2
            exact e2 (h3.symm.trans hk)
          exact ⟨j, u, h1, by show (a.xs.take i)[j]? = _; rw [hget, if_pos (by omega)]; exact h2, h3⟩
      · intro c c0 cl
        have cl' : c < i := by simpa [hn] using cl
        have e1 : ∀ j, j < i → (a.xs.take i).getD j (tz T) = a.xs.getD j (tz T) := fun j hj => by
          simp only [List.getD_eq_getElem?_getD, hget, hj, if_true]
        show ahd T ((a.xs.take i).getD c (tz T)) ((a.xs.take i).getD ((c - 1) / 2) (tz T)) = false
        rw [e1 c cl', e1 _ (by omega)]
        exact h.heap c c0 (by omega)
      · constructor
        · intro hu
          obtain ⟨j, hj⟩ := List.getElem?_of_mem hu
          have hj' : (a.xs.take i)[j]? = some u := hj
          rw [hget] at hj'
          split at hj'
          · exact ⟨List.mem_of_getElem? hj', hne j u hj' (by omega)⟩
          · cases hj'
        · rintro ⟨h1, h2⟩
          obtain ⟨j, hj⟩ := List.getElem?_of_mem h1
          have hjl := (List.getElem?_eq_some_iff.1 hj).1
          have hji : j ≠ i := by
            intro e
            subst e
            rw [hi] at hj
            cases hj
            exact h2 hk
          exact List.mem_of_getElem? (i := j) (by rw [hget, if_pos (by omega)]; exact hj)

/-- The first is ahead of all others. -/
theorem Inv.first {a : AS K} (h : Inv T a) : ∀ u ∈ a.xs, ahd T u (a.xs.getD 0 (tz T)) = false := by
  have key : ∀ n j, j < n → j < a.xs.length → ahd T (a.xs.getD j (tz T)) (a.xs.getD 0 (tz T)) = false := by
    intro n
    induction n with
    | zero => intro j hj; omega
    | succ n ih =>
      intro j hj hl
      by_cases e : j = 0
      · subst e; exact ahd_irr _
      · exact not_ahd_tr (h.heap j (by omega) hl) (ih ((j - 1) / 2) (by omega) (by omega))
  intro u hu
  obtain ⟨j, hj⟩ := List.getElem?_of_mem hu
  have hl := (List.getElem?_eq_some_iff.1 hj).1
  have := key (j + 1) j (by omega) hl
  simpa [List.getD_eq_getElem?_getD, hj] using this
theorem Inv.has_iff {a : AS K} (h : Inv T a) (k : K) : a.has T k = true ↔ ∃ u ∈ a.xs, u.k = k := by
  unfold AS.has
  constructor
  · intro hh
    obtain ⟨v, hv⟩ := Option.isSome_iff_exists.1 hh
    obtain ⟨j, u, _, h2, h3⟩ := h.lp k v hv
    exact ⟨u, List.mem_of_getElem? h2, h3⟩
  · rintro ⟨u, hu, e⟩
    obtain ⟨j, hj⟩ := List.getElem?_of_mem hu
    have := h.pl j u hj
    rw [e] at this
    rw [this]
    rfl
theorem Inv.when_of {a : AS K} (h : Inv T a) {u : Tim K} (hu : u ∈ a.xs) : a.when T u.k = u.at_ := by
  obtain ⟨j, hj⟩ := List.getElem?_of_mem hu
  have := h.pl j u hj
  unfold AS.when
  rw [this]
  show (a.xs.getD ((j : Int)).toNat (tz T)).at_ = _
  simp [List.getD_eq_getElem?_getD, hj]
theorem AS.when_not {a : AS K} {k : K} (h : a.has T k = false) : a.when T k = 0 := by
  unfold AS.has at h
  unfold AS.when
  cases hm : mget T.ko a.m k with
  | none => rfl
  | some v => rw [hm] at h; cases h

/-! ### What is due -/
def dueR (T : KeyT K) (now : Int) : Nat → AS K → List K × AS K
  | 0, a => ([], a)
  | n + 1, a => if 0 < a.xs.length ∧ (a.xs.getD 0 (tz T)).at_ ≤ now then ((a.xs.getD 0 (tz T)).k :: (dueR T now n (a.cancel T (a.xs.getD 0 (tz T)).k)).1, (dueR T now n (a.cancel T (a.xs.getD 0 (tz T)).k)).2) else ([], a)
def AS.due (T : KeyT K) (a : AS K) (now : Int) : List K × AS K := dueR T now a.xs.length a
theorem dueR_stop {a : AS K} {now : Int} (h : ¬ (0 < a.xs.length ∧ (a.xs.getD 0 (tz T)).at_ ≤ now)) : ∀ n, dueR T now n a = ([], a)
  | 0 => rfl
  | n + 1 => by rw [dueR, if_neg h]
theorem Inv.cancel_first {a : AS K} (h : Inv T a) (h0 : 0 < a.xs.length) : (a.cancel T (a.xs.getD 0 (tz T)).k).xs.length + 1 = a.xs.length := by
  have hm : a.xs.getD 0 (tz T) ∈ a.xs := by
    rw [List.getD_eq_getElem?_getD, List.getElem?_eq_getElem h0]
    exact List.getElem_mem h0
  have := (h.cancel (a.xs.getD 0 (tz T)).k).2.2
  rw [if_pos ((h.has_iff _).2 ⟨_, hm, rfl⟩)] at this
  omega
end Go.Proofs.Ytggohplddejniaa
