import Derived.Test.YtggohplddejniaaPF
namespace Go.Proofs.Ytggohplddejniaa
open Go
set_option maxRecDepth 4000

/-! ### What comes out of an alarm, one by one -/
section
variable {K : Type} {T : KeyT K}
def fstT (T : KeyT K) (a : AS K) : Tim K := a.xs.getD 0 (tz T)
def popR (T : KeyT K) (a : AS K) : AS K := a.cancel T (fstT T a).k
def pops (T : KeyT K) : Nat → AS K → AS K
  | 0, a => a
  | n + 1, a => pops T n (popR T a)
def outT (T : KeyT K) (a : AS K) (i : Nat) : Tim K := fstT T (pops T i a)
def outs (T : KeyT K) : Nat → AS K → List (Tim K)
  | 0, _ => []
  | n + 1, a => fstT T a :: outs T n (popR T a)
theorem pops_add : ∀ (i j : Nat) (a : AS K), pops T j (pops T i a) = pops T (i + j) a
  | 0, j, a => by rw [Nat.zero_add]; rfl
  | i + 1, j, a => by rw [show i + 1 + j = (i + j) + 1 by omega]; exact pops_add i j (popR T a)
theorem pops_succ (i : Nat) (a : AS K) : pops T (i + 1) a = popR T (pops T i a) := (pops_add i 1 a).symm
theorem fst_mem {a : AS K} (h0 : 0 < a.xs.length) : fstT T a ∈ a.xs := by
  unfold fstT
  rw [List.getD_eq_getElem?_getD, List.getElem?_eq_getElem h0]
  exact List.getElem_mem h0
theorem pop_inv {a : AS K} (h : Inv T a) : Inv T (popR T a) ∧ (∀ u, u ∈ (popR T a).xs ↔ u ∈ a.xs ∧ u.k ≠ (fstT T a).k) := ⟨(h.cancel _).1, (h.cancel _).2.1⟩
theorem pop_len {a : AS K} (h : Inv T a) (h0 : 0 < a.xs.length) : (popR T a).xs.length = a.xs.length - 1 := by
  have := h.cancel_first h0
  unfold popR fstT
  omega
theorem pops_inv : ∀ (i : Nat) {a : AS K}, Inv T a → Inv T (pops T i a) ∧ ∀ u, u ∈ (pops T i a).xs → u ∈ a.xs
  | 0, _, h => ⟨h, fun _ h => h⟩
  | i + 1, a, h => by
    obtain ⟨h1, h2⟩ := pop_inv h
    obtain ⟨g1, g2⟩ := pops_inv i h1
    exact ⟨g1, fun u hu => ((h2 u).1 (g2 u hu)).1⟩
theorem pops_len : ∀ (i : Nat) {a : AS K}, Inv T a → i ≤ a.xs.length → (pops T i a).xs.length = a.xs.length - i
  | 0, _, _, _ => rfl
  | i + 1, a, h, hi => by
    have h1 := pop_len h (by omega)
    show (pops T i (popR T a)).xs.length = _
    rw [pops_len i (pop_inv h).1 (by omega), h1]
    omega
theorem outs_len : ∀ (n : Nat) (a : AS K), (outs T n a).length = n
  | 0, _ => rfl
  | n + 1, a => by rw [outs, List.length_cons, outs_len n]
theorem outs_get : ∀ (n i : Nat) (a : AS K), i < n → (outs T n a)[i]? = some (outT T a i)
  | n + 1, 0, a, _ => rfl
  | n + 1, i + 1, a, h => by
    rw [outs, List.getElem?_cons_succ]
    exact outs_get n i (popR T a) (by omega)
/-- One after the other, each strictly later. -/
theorem fst_lt {a : AS K} (h : Inv T a) (h1 : 1 < a.xs.length) : ahd T (fstT T a) (fstT T (popR T a)) = true := by
  have hm : fstT T (popR T a) ∈ (popR T a).xs := fst_mem (by rw [pop_len h (by omega)]; omega)
  obtain ⟨g1, g2⟩ := ((pop_inv h).2 _).1 hm
  have hf : ahd T (fstT T (popR T a)) (fstT T a) = false := h.first _ g1
  cases hh : ahd T (fstT T a) (fstT T (popR T a)) with
  | true => rfl
  | false => exact absurd (by rw [ahd_tot hh hf]) g2
theorem out_lt {a : AS K} (h : Inv T a) {i : Nat} (hi : i + 1 < a.xs.length) : ahd T (outT T a i) (outT T a (i + 1)) = true := by
  unfold outT
  rw [pops_succ]
  exact fst_lt (pops_inv i h).1 (by rw [pops_len i h (by omega)]; omega)
theorem out_le {a : AS K} (h : Inv T a) : ∀ (d i : Nat), i + d < a.xs.length → (outT T a i).at_ ≤ (outT T a (i + d)).at_
  | 0, i, _ => Int.le_refl _
  | d + 1, i, hi => by
    have h1 := out_le h d i (by omega)
    have h2 := ahd_iff.1 (out_lt h (i := i + d) (by omega))
    rw [show i + (d + 1) = i + d + 1 by omega]
    rcases h2 with h2 | ⟨h2, _⟩ <;> omega
theorem out_mem {a : AS K} (h : Inv T a) {i : Nat} (hi : i < a.xs.length) : outT T a i ∈ a.xs :=
  (pops_inv i h).2 _ (fst_mem (by rw [pops_len i h (by omega)]; omega))
/-- What is due comes out first. -/
theorem due_form {now : Int} : ∀ (n : Nat) {a : AS K}, Inv T a → a.xs.length ≤ n → ∃ m, m ≤ a.xs.length ∧ dueR T now n a = ((outs T m a).map (·.k), pops T m a) ∧ (∀ i, i < m → (outT T a i).at_ ≤ now) ∧ (m < a.xs.length → now < (outT T a m).at_)
  | 0, a, _, hl => ⟨0, Nat.zero_le _, rfl, fun i hi => absurd hi (Nat.not_lt_zero _), fun h => by omega⟩
  | n + 1, a, h, hl => by
    by_cases hc : 0 < a.xs.length ∧ (a.xs.getD 0 (tz T)).at_ ≤ now
    · obtain ⟨m, h1, h2, h3, h4⟩ := due_form n (now := now) (pop_inv h).1 (by rw [pop_len h hc.1]; omega)
      rw [pop_len h hc.1] at h1 h4
      refine ⟨m + 1, by omega, ?_, fun i hi => ?_, fun hm => h4 (by omega)⟩
      · rw [dueR, if_pos hc]
        have e : a.cancel T (a.xs.getD 0 (tz T)).k = popR T a := rfl
        rw [e, h2]
        rfl
      · match i with
        | 0 => exact hc.2
        | i + 1 => exact h3 i (by omega)
    · refine ⟨0, Nat.zero_le _, by rw [dueR, if_neg hc]; rfl, fun i hi => absurd hi (Nat.not_lt_zero _), fun h0 => ?_⟩
      show now < (a.xs.getD 0 (tz T)).at_
      have : ¬ (a.xs.getD 0 (tz T)).at_ ≤ now := fun hh => hc ⟨h0, hh⟩
      omega
/-- The early ones and the late ones. -/
theorem due_two {a : AS K} (h : Inv T a) (now top : Int) (htop : ∀ u ∈ a.xs, u.at_ ≤ top) : ∃ m, m ≤ a.xs.length ∧ a.due T now = ((outs T m a).map (·.k), pops T m a) ∧ (pops T m a).due T top = ((outs T (a.xs.length - m) (pops T m a)).map (·.k), pops T (a.xs.length - m) (pops T m a)) ∧ (pops T (a.xs.length - m) (pops T m a)).xs.length = 0 ∧ (∀ i, i < a.xs.length → (i < m ↔ (outT T a i).at_ ≤ now)) ∧ (∀ i, i < m → ((outs T m a).map (·.k))[i]? = some (outT T a i).k) ∧ (∀ i, m ≤ i → i < a.xs.length → ((outs T (a.xs.length - m) (pops T m a)).map (·.k))[i - m]? = some (outT T a i).k) := by
  obtain ⟨m, h1, h2, h3, h4⟩ := due_form a.xs.length (now := now) h (Nat.le_refl _)
  have hl := pops_len m h h1
  obtain ⟨h5, h6⟩ := pops_inv m h
  obtain ⟨m2, g1, g2, g3, g4⟩ := due_form (pops T m a).xs.length (now := top) h5 (Nat.le_refl _)
  have hm2 : m2 = a.xs.length - m := by
    rcases Nat.lt_or_ge m2 (pops T m a).xs.length with hh | hh
    · have := g4 hh
      have := htop _ (h6 _ (out_mem h5 hh))
      omega
    · omega
  subst hm2
  refine ⟨m, h1, h2, g2, ?_, fun i hi => ⟨fun him => h3 i him, fun hat => ?_⟩, fun i hi => ?_, fun i hmi hi => ?_⟩
  · rw [pops_len _ h5 (by omega), hl]
    omega
  · rcases Nat.lt_or_ge i m with hh | hh
    · exact hh
    · have k1 := h4 (by omega)
      have k2 := out_le h (i - m) m (by omega)
      rw [show m + (i - m) = i by omega] at k2
      omega
  · rw [List.getElem?_map, outs_get m i a hi]
    rfl
  · rw [List.getElem?_map, outs_get _ _ _ (by omega)]
    show some (outT T (pops T m a) (i - m)).k = _
    unfold outT
    rw [pops_add, show m + (i - m) = i by omega]
end
/-- As many as the last ones. -/
theorem setsR_count (ps : List Pair) {a : AS Int} (h : Inv IT a) (h0 : a.xs = []) (n : Nat) (hn : n ≤ ps.length) : (setsR ps n a).xs.length = (lastR ps n).length := by
  have hi := (setsR_inv ps h n hn).1
  have hnd := lastR_nd ps n hn
  have e : ((lastR ps n).map toT).length = (lastR ps n).length := List.length_map ..
  rw [← e]
  refine len_eq hi.nodup ?_ (fun u => ?_)
  · refine List.pairwise_map.2 ?_
    unfold keysNd at hnd
    have := List.pairwise_map.1 hnd
    exact this.imp (fun {x y} hxy hh => hxy (by rw [toT_inj hh]))
  · rw [setsR_last ps h h0 n hn u, List.mem_map]
/-- No time above what was set. -/
theorem setsR_at (ps : List Pair) {a : AS Int} (h : Inv IT a) (h0 : a.xs = []) {top : Int} (ht : ∀ q ∈ ps, q.At ≤ top) : ∀ n, n ≤ ps.length → ∀ u ∈ (setsR ps n a).xs, u.at_ ≤ top
  | 0, _, u, hu => by
    have hu' : u ∈ a.xs := hu
    rw [h0] at hu'
    cases hu'
  | n + 1, hn, u, hu => by
    rw [setsR_succ (by omega)] at hu
    rcases (((setsR_inv ps h n (by omega)).1.set _ _).2.1 u).1 hu with h1 | ⟨h1, _⟩
    · rw [h1]; exact ht _ (List.getElem_mem _)
    · exact setsR_at ps h h0 ht n (by omega) u h1
end Go.Proofs.Ytggohplddejniaa
