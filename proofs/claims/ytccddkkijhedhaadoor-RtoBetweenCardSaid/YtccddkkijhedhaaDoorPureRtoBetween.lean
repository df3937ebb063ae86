import Derived.Test.YtccddkkijhedhaaDoorMathC
import Derived.Test.YtccddkkijhedhaaDoorPAx25
namespace Go.Proofs.YtccddkkijhedhaaDoor.Pure
open Go.RowKit Go.Proofs.YtccddkkijhedhaaDoor Go.Proofs.YtccddkkijhedhaaDoor.PA Go.Proofs.YtccddkkijhedhaaDoorW.PrintWords Go.Proofs.YtccddkkijhedhaaDoorW.PrintLast Go.Proofs.YtccddkkijhedhaaDoorW.PrintMore
/-- The bounds that samples from lo to hi keep. -/
def Keeps (lo hi s8 v4 : Int) (kn : Bool) : Prop := kn = true → 8 * lo ≤ s8 ∧ s8 ≤ 8 * hi + 7 ∧ 0 ≤ v4 ∧ v4 ≤ 4 * hi
theorem keeps_next {lo hi s8 v4 t : Int} {kn : Bool} (h : Keeps lo hi s8 v4 kn) (h1 : 1 ≤ lo) (h3 : lo ≤ t) (h4 : t ≤ hi) :
    8 * lo ≤ S8 s8 kn t ∧ S8 s8 kn t ≤ 8 * hi + 7 ∧ 0 ≤ V4 s8 v4 kn t ∧ V4 s8 v4 kn t ≤ 4 * hi := by
  unfold S8 V4
  cases kn with
  | true => have := h rfl; simp only [if_true]; omega
  | false => simp only [Bool.false_eq_true, if_false]; omega
theorem between_l (a b c lo hi : Int) (l : List Int) (hl : l.length ≤ 1000000000000000) (h1 : 1 ≤ lo) (h2 : lo ≤ hi) (h3 : hi ≤ 1048576) (d : Nat) : ∀ (k : Nat) (i s8 v4 rto sh : Int) (kn : Bool), mayB a b c s8 v4 rto sh kn = true → Keeps lo hi s8 v4 kn → 0 ≤ i → i ≤ l.length → l.length - i = d → d < k →
    annexlaw17_RtoBetween.l0 k lo hi l kn i a b c s8 v4 rto sh kn = some true := by
  induction d with
  | zero =>
    intro k i s8 v4 rto sh kn hm hK h0 hi1 hd hk
    obtain ⟨k, rfl⟩ : ∃ m, k = m + 1 := ⟨k - 1, by omega⟩
    simp only [annexlaw17_RtoBetween.l0]
    rw [if_neg (by omega)]
    simp
  | succ d ih =>
    intro k i s8 v4 rto sh kn hm hK h0 hi1 hd hk
    obtain ⟨k, rfl⟩ : ∃ m, k = m + 1 := ⟨k - 1, by omega⟩
    have hw : wrap64 (i + 1) = i + 1 := wC (by omega)
    simp only [annexlaw17_RtoBetween.l0]
    rw [if_pos (by omega), if_pos h0]
    by_cases hn : rd l i < 0
    · rw [if_pos hn, expire_f, if_pos hm]
      simp only [Option.bind_some]
      rw [hw]
      exact ih k _ _ _ _ _ _ (expire_may hm) hK (by omega) (by omega) (by omega) (by omega)
    · rw [if_neg hn, wC (n := hi - lo) (by omega), wC (n := hi - lo + 1) (by omega), if_neg (by omega)]
      have e : Int.tmod (rd l i) (hi - lo + 1) = rd l i % (hi - lo + 1) := Int.tmod_eq_emod_of_nonneg (by omega)
      have e1 := Int.emod_nonneg (rd l i) (show hi - lo + 1 ≠ 0 by omega)
      have e2 := Int.emod_lt_of_pos (rd l i) (show 0 < hi - lo + 1 by omega)
      rw [e]
      generalize rd l i % (hi - lo + 1) = q at e1 e2
      rw [wC (n := lo + q) (by omega), samp_f]
      have hc : clampR 1 1048576 (lo + q) = lo + q := by unfold clampR; omega
      have hm' := samp_may hm (lo + q)
      simp only [Option.bind_some, sampT, hm, if_true]
      rw [hc] at hm' ⊢
      have hk' := keeps_next (t := lo + q) hK h1 (by omega) (by omega)
      generalize S8 s8 kn (lo + q) = X at *
      generalize V4 s8 v4 kn (lo + q) = Y at *
      rw [tdivC (x := X) (by omega) (by omega) (by omega), wC (n := 4 * hi) (by omega), if_neg (by omega), if_neg (by omega), if_neg (by omega), if_neg (by omega), hw]
      exact ih k _ _ _ _ _ _ hm' (fun _ => hk') (by omega) (by omega) (by omega) (by omega)
theorem RtoBetween (a b c lo hi : Int) (l : List Int) (_ : (Lit.int .i64 a).wf = true) (_ : (Lit.int .i64 b).wf = true) (_ : (Lit.int .i64 c).wf = true) (_ : (Lit.int .i64 lo).wf = true) (_ : (Lit.int .i64 hi).wf = true) (_ : l.length ≤ maxLen) (h : l.length * 8 ≤ 140737488351232) (_ : ∀ x ∈ l, (Lit.int .i64 x).wf = true) :
    ∃ k, annexlaw17_RtoBetween.f k a b c lo hi l = some true := by
  refine ⟨l.length + 4, ?_⟩
  simp only [annexlaw17_RtoBetween.f, known_true, start_f, right_f, Option.bind_some, if_true, annexlaw17_num.f]
  have out : ∀ e0 e1 e2 e3 e4, annexlaw17_RtoBetween.j1 (l.length + 3) lo hi l true a b c e0 e1 e2 e3 e4 = some true := by
    intro e0 e1 e2 e3 e4
    simp only [annexlaw17_RtoBetween.j1, if_true]
  by_cases hp : pmB a b c = true
  · obtain ⟨p1, p2, p3, p4⟩ := pmB_iff.1 hp
    simp only [hp, if_true, annexlaw17_RtoBetween.j0]
    rw [if_neg (by decide)]
    by_cases h1 : lo < 1
    · rw [if_pos h1, out]
    · rw [if_neg h1]
      by_cases h2 : hi < lo
      · rw [if_pos h2, out]
      · rw [if_neg h2]
        by_cases h3 : hi > 1048576
        · rw [decide_eq_true h3, out]
        · rw [decide_eq_false h3]
          simp only [annexlaw17_RtoBetween.j1, Bool.false_eq_true, if_false]
          refine between_l a b c lo hi l (by omega) (by omega) (by omega) (by omega) l.length _ 0 0 0 b 0 false ?_ (fun h => by cases h) (by omega) (by omega) (by omega) (by omega)
          exact mayB_iff.2 ⟨hp, .inr ⟨rfl, rfl⟩, by omega, by omega, by omega, by omega, p2, p3, by omega, by omega⟩
  · have hp : pmB a b c = false := by simpa using hp
    simp only [hp, Bool.false_eq_true, if_false, annexlaw17_RtoBetween.j0]
    rw [if_neg (by decide), out]
end Go.Proofs.YtccddkkijhedhaaDoor.Pure
