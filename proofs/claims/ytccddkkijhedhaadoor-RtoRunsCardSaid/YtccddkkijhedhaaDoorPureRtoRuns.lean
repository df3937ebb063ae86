import Derived.Test.YtccddkkijhedhaaDoorMathS
import Derived.Test.YtccddkkijhedhaaDoorPAx20
namespace Go.Proofs.YtccddkkijhedhaaDoor.Pure
open Go.RowKit Go.Proofs.YtccddkkijhedhaaDoor Go.Proofs.YtccddkkijhedhaaDoor.PA Go.Proofs.YtccddkkijhedhaaDoorW.PrintWords Go.Proofs.YtccddkkijhedhaaDoorW.PrintLast Go.Proofs.YtccddkkijhedhaaDoorW.PrintMore
theorem runs_j (a b c : Int) (l : List Int) (k : Nat) (hk : 20 < k) (i s8 v4 rto sh : Int) (kn : Bool) (hi : wrap64 (i + 1) = i + 1) :
    annexlaw17_RtoRuns.j2 (k + 1) l i a b c s8 v4 rto sh kn s8 v4 rto sh kn = annexlaw17_RtoRuns.l0 k l (i + 1) a b c s8 v4 rto sh kn s8 v4 rto sh kn := by
  simp only [annexlaw17_RtoRuns.j2, same_self, wait_f, refWait_f _ _ _ _ _ _ _ _ k hk, Option.bind_some, if_true, hi]
theorem runs_l (a b c : Int) (l : List Int) (hl : l.length ≤ 1000000000000000) (d : Nat) : ∀ (k : Nat) (i s8 v4 rto sh : Int) (kn : Bool), 0 ≤ i → i ≤ l.length → l.length - i = d → 2 * d + 30 < k →
    annexlaw17_RtoRuns.l0 k l i a b c s8 v4 rto sh kn s8 v4 rto sh kn = some true := by
  induction d with
  | zero =>
    intro k i s8 v4 rto sh kn h0 h1 hd hk
    obtain ⟨k, rfl⟩ : ∃ m, k = m + 1 := ⟨k - 1, by omega⟩
    simp only [annexlaw17_RtoRuns.l0]
    rw [if_neg (by omega)]
  | succ d ih =>
    intro k i s8 v4 rto sh kn h0 h1 hd hk
    obtain ⟨k, rfl⟩ : ∃ m, k = m + 2 := ⟨k - 2, by omega⟩
    have hw : wrap64 (i + 1) = i + 1 := by unfold wrap64; omega
    simp only [annexlaw17_RtoRuns.l0]
    rw [if_pos (by omega), if_pos h0]
    by_cases hn : rd l i < 0
    · rw [if_pos hn]
      simp only [expire_f, refExpire_f _ _ _ _ _ _ _ _ (k + 1) (by omega), Option.bind_some]
      rw [runs_j _ _ _ _ k (by omega) _ _ _ _ _ _ hw]
      exact ih k _ _ _ _ _ _ (by omega) (by omega) (by omega) (by omega)
    · rw [if_neg hn]
      simp only [sample_f, refSample_f _ _ _ _ _ _ _ _ _ (k + 1) (by omega), Option.bind_some]
      rw [runs_j _ _ _ _ k (by omega) _ _ _ _ _ _ hw]
      exact ih k _ _ _ _ _ _ (by omega) (by omega) (by omega) (by omega)
theorem RtoRuns (a b c : Int) (l : List Int) (_ : (Lit.int .i64 a).wf = true) (_ : (Lit.int .i64 b).wf = true) (_ : (Lit.int .i64 c).wf = true) (_ : l.length ≤ maxLen) (h : l.length * 8 ≤ 140737488351232) (_ : ∀ x ∈ l, (Lit.int .i64 x).wf = true) :
    ∃ k, annexlaw17_RtoRuns.f k a b c l = some true := by
  refine ⟨2 * l.length + 40, ?_⟩
  simp only [annexlaw17_RtoRuns.f, known_true, start_f, refStart_f, Option.bind_some, annexlaw17_num.f, if_true]
  obtain ⟨m, hm⟩ : ∃ m, 2 * l.length + 40 = m + 1 := ⟨2 * l.length + 39, by omega⟩
  rw [hm]
  simp only [annexlaw17_RtoRuns.j0, bne_self_eq_false, Bool.false_eq_true, if_false]
  exact runs_l a b c l (by omega) l.length m 0 _ _ _ _ _ (by omega) (by omega) (by omega) (by omega)
end Go.Proofs.YtccddkkijhedhaaDoor.Pure
