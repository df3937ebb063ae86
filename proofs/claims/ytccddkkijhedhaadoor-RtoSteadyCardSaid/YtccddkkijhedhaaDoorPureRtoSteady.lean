import Derived.Test.YtccddkkijhedhaaDoorMathC
import Derived.Test.YtccddkkijhedhaaDoorPAx26
namespace Go.Proofs.YtccddkkijhedhaaDoor.Pure
open Go.RowKit Go.Proofs.YtccddkkijhedhaaDoor Go.Proofs.YtccddkkijhedhaaDoor.PA Go.Proofs.YtccddkkijhedhaaDoorW.PrintWords Go.Proofs.YtccddkkijhedhaaDoorW.PrintLast Go.Proofs.YtccddkkijhedhaaDoorW.PrintMore
/-- What the variation is at most, behind so many samples more. -/
def top : Nat → Nat
  | 0 => 2097152
  | n + 1 => top n - top n / 4
theorem top_anti (n : Nat) : top (n + 1) ≤ top n := by simp only [top]; omega
theorem top_le : ∀ (d n : Nat), top (n + d) ≤ top n
  | 0, _ => Nat.le_refl _
  | d + 1, n => Nat.le_trans (top_anti (n + d)) (top_le d n)
theorem top64 : top 64 ≤ 3 := by decide +kernel
/-- Behind i samples: nothing is known yet, or the smoothed one is the sample, and the variation is below its top. -/
def Settled (r last s8 v4 : Int) (kn : Bool) (i : Nat) : Prop :=
  (i = 0 ∧ kn = false ∧ last = 1073741824) ∨ (∃ n, i = n + 1 ∧ kn = true ∧ s8 = 8 * r ∧ last = v4 ∧ 0 ≤ v4 ∧ v4 ≤ top n)
theorem settled_next {r last s8 v4 : Int} {kn : Bool} {i : Nat} (h : Settled r last s8 v4 kn i) (h1 : 1 ≤ r) (h2 : r ≤ 1048576) :
    S8 s8 kn r = 8 * r ∧ 0 ≤ V4 s8 v4 kn r ∧ V4 s8 v4 kn r ≤ last ∧ V4 s8 v4 kn r ≤ top i := by
  unfold S8 V4
  rcases h with ⟨rfl, rfl, rfl⟩ | ⟨n, rfl, rfl, rfl, rfl, h0, ht⟩
  · simp only [Bool.false_eq_true, if_false]
    have e : (top 0 : Int) = 2097152 := rfl
    exact ⟨trivial, by omega, by omega, by omega⟩
  · simp only [if_true, top]; omega
theorem steady_l (a b c r n : Int) (h1 : 1 ≤ r) (h2 : r ≤ 1048576) (d : Nat) : ∀ (k i : Nat) (last s8 v4 rto sh : Int) (kn : Bool), mayB a b c s8 v4 rto sh kn = true → Settled r last s8 v4 kn i → 300 - (i : Int) = d → 2 * d + 1 < k →
    annexlaw17_RtoSteady.l0 k r n last i a b c s8 v4 rto sh kn = some true := by
  induction d with
  | zero =>
    intro k i last s8 v4 rto sh kn hm hS hd hk
    obtain ⟨k, rfl⟩ : ∃ m, k = m + 2 := ⟨k - 2, by omega⟩
    simp only [annexlaw17_RtoSteady.l0]
    rw [decide_eq_false (by omega : ¬ (i : Int) < 300)]
    simp [annexlaw17_RtoSteady.j3]
  | succ d ih =>
    intro k i last s8 v4 rto sh kn hm hS hd hk
    obtain ⟨k, rfl⟩ : ∃ m, k = m + 2 := ⟨k - 2, by omega⟩
    simp only [annexlaw17_RtoSteady.l0]
    by_cases hn : (i : Int) < n
    · rw [if_pos hn, decide_eq_true (by omega : (i : Int) < 300)]
      simp only [annexlaw17_RtoSteady.j3, if_true]
      have hc : clampR 1 1048576 r = r := by unfold clampR; omega
      have hm' := samp_may hm r
      simp only [samp_f, sampT, hm, if_true, Option.bind_some]
      rw [hc] at hm' ⊢
      obtain ⟨e1, e2, e3, e4⟩ := settled_next hS h1 h2
      rw [e1] at hm' ⊢
      generalize V4 s8 v4 kn r = Y at *
      rw [wC (n := 8 * r) (by omega), if_pos rfl, if_neg (by omega), wC (n := (i : Int) + 1) (by omega)]
      have go := ih k (i + 1) Y (8 * r) Y _ 0 true hm' (.inr ⟨i, rfl, rfl, rfl, rfl, e2, e4⟩) (by omega) (by omega)
      rw [show ((i + 1 : Nat) : Int) = (i : Int) + 1 by omega] at go
      by_cases h64 : (i : Int) ≥ 64
      · have := top_le (i - 64) 64
        rw [show 64 + (i - 64) = i by omega] at this
        have := top64
        rw [if_pos h64, if_neg (by omega)]
        exact go
      · rw [if_neg h64]
        exact go
    · rw [if_neg hn]
      simp [annexlaw17_RtoSteady.j3]
theorem RtoSteady (a b c r n : Int) (_ : (Lit.int .i64 a).wf = true) (_ : (Lit.int .i64 b).wf = true) (_ : (Lit.int .i64 c).wf = true) (_ : (Lit.int .i64 r).wf = true) (_ : (Lit.int .i64 n).wf = true) :
    ∃ k, annexlaw17_RtoSteady.f k a b c r n = some true := by
  refine ⟨610, ?_⟩
  simp only [annexlaw17_RtoSteady.f, known_true, start_f, right_f, Option.bind_some, if_true, annexlaw17_num.f]
  have out : ∀ e0 e1 e2 e3 e4, annexlaw17_RtoSteady.j1 609 r n true a b c e0 e1 e2 e3 e4 = some true := by
    intro e0 e1 e2 e3 e4
    simp only [annexlaw17_RtoSteady.j1, if_true]
  by_cases hp : pmB a b c = true
  · obtain ⟨p1, p2, p3, p4⟩ := pmB_iff.1 hp
    simp only [hp, if_true, annexlaw17_RtoSteady.j0]
    rw [if_neg (by decide)]
    by_cases h1 : r < 1
    · rw [if_pos h1, out]
    · rw [if_neg h1]
      by_cases h3 : r > 1048576
      · rw [decide_eq_true h3, out]
      · rw [decide_eq_false h3]
        simp only [annexlaw17_RtoSteady.j1, Bool.false_eq_true, if_false]
        refine steady_l a b c r n (by omega) (by omega) 300 _ 0 1073741824 0 0 b 0 false ?_ (.inl ⟨rfl, rfl, rfl⟩) (by omega) (by omega)
        exact mayB_iff.2 ⟨hp, .inr ⟨rfl, rfl⟩, by omega, by omega, by omega, by omega, p2, p3, by omega, by omega⟩
  · have hp : pmB a b c = false := by simpa using hp
    simp only [hp, Bool.false_eq_true, if_false, annexlaw17_RtoSteady.j0]
    rw [if_neg (by decide), out]
end Go.Proofs.YtccddkkijhedhaaDoor.Pure
