import Derived.Test.YtccddkkijhedhaaDoorMathC
import Derived.Test.YtccddkkijhedhaaDoorPAx23
namespace Go.Proofs.YtccddkkijhedhaaDoor.Pure
open Go.RowKit Go.Proofs.YtccddkkijhedhaaDoor Go.Proofs.YtccddkkijhedhaaDoor.PA Go.Proofs.YtccddkkijhedhaaDoorW.PrintWords Go.Proofs.YtccddkkijhedhaaDoorW.PrintLast Go.Proofs.YtccddkkijhedhaaDoorW.PrintMore
theorem closed_l (a b c : Int) (l : List Int) (hl : l.length ≤ 1000000000000000) (d : Nat) : ∀ (k : Nat) (i s8 v4 rto sh : Int) (kn : Bool), mayB a b c s8 v4 rto sh kn = true → 0 ≤ i → i ≤ l.length → l.length - i = d → 3 * d < k →
    annexlaw17_RtoClosed.l0 k l (waitV c rto sh) i a b c s8 v4 rto sh kn = some true := by
  induction d with
  | zero =>
    intro k i s8 v4 rto sh kn hm h0 h1 hd hk
    obtain ⟨k, rfl⟩ : ∃ m, k = m + 1 := ⟨k - 1, by omega⟩
    obtain ⟨hp, -, -, -, -, -, h7, h8, -, -⟩ := mayB_iff.1 hm
    obtain ⟨p1, p2, p3, p4⟩ := pmB_iff.1 hp
    have hb := wait_bd (a := a) (c := c) (rto := rto) (sh := sh) p1 h7 h8
    simp only [annexlaw17_RtoClosed.l0]
    rw [if_neg (by omega), if_pos hb.1, decide_eq_true hb.2]
  | succ d ih =>
    intro k i s8 v4 rto sh kn hm h0 h1 hd hk
    obtain ⟨k, rfl⟩ : ∃ m, k = m + 3 := ⟨k - 3, by omega⟩
    have hw : wrap64 (i + 1) = i + 1 := wC (by omega)
    obtain ⟨hp, -, -, -, -, -, h7, h8, -, -⟩ := mayB_iff.1 hm
    obtain ⟨p1, p2, p3, p4⟩ := pmB_iff.1 hp
    have hb := wait_bd (a := a) (c := c) (rto := rto) (sh := sh) p1 h7 h8
    simp only [annexlaw17_RtoClosed.l0]
    rw [if_pos (by omega), if_neg (by omega), decide_eq_false (by omega : ¬ waitV c rto sh > c)]
    simp only [annexlaw17_RtoClosed.j2, Bool.false_eq_true, if_false]
    rw [if_pos h0, if_pos (by omega)]
    by_cases hn : rd l i < 0
    · rw [if_pos hn, expire_f, if_pos hm]
      have hm' := expire_may hm
      simp only [Option.bind_some, annexlaw17_RtoClosed.j3]
      rw [lawMay_f _ _ _ _ _ _ _ _ hp, wait_f, if_pos hm']
      simp only [Option.bind_some]
      rw [if_pos hm', if_pos h0, if_pos (by omega), if_neg (by omega), hw]
      exact ih k _ _ _ _ _ _ hm' (by omega) (by omega) (by omega) (by omega)
    · rw [if_neg hn, samp_f]
      have hm' := samp_may hm (rd l i)
      simp only [Option.bind_some, sampT, hm, if_true, annexlaw17_RtoClosed.j3]
      rw [lawMay_f _ _ _ _ _ _ _ _ hp, wait_f, if_pos hm']
      simp only [Option.bind_some]
      rw [if_pos hm', if_pos h0, if_pos (by omega), if_pos (by omega), if_pos (wait_zero (mayB_iff.1 hm').2.2.2.2.2.2.2.1), hw]
      exact ih k _ _ _ _ _ _ hm' (by omega) (by omega) (by omega) (by omega)
theorem RtoClosed (a b c s8 v4 rto sh : Int) (kn : Bool) (l : List Int) (_ : (Lit.int .i64 a).wf = true) (_ : (Lit.int .i64 b).wf = true) (_ : (Lit.int .i64 c).wf = true) (_ : (Lit.int .i64 s8).wf = true) (_ : (Lit.int .i64 v4).wf = true) (_ : (Lit.int .i64 rto).wf = true) (_ : (Lit.int .i64 sh).wf = true) (_ : l.length ≤ maxLen) (h : l.length * 8 ≤ 140737488351232) (_ : ∀ x ∈ l, (Lit.int .i64 x).wf = true) :
    ∃ k, annexlaw17_RtoClosed.f k a b c s8 v4 rto sh kn l = some true := by
  refine ⟨3 * l.length + 2, ?_⟩
  simp only [annexlaw17_RtoClosed.f, known_true, right_f, Option.bind_some, if_true]
  have no : mayB a b c s8 v4 rto sh kn = false → annexlaw17_RtoClosed.j0 (3 * l.length + 2) l false a b c s8 v4 rto sh kn = some true := by
    intro hm
    simp only [annexlaw17_RtoClosed.j0, wait_f, expire_f, samp_f, sampT, hm, Option.bind_some, Bool.false_eq_true, if_false, same_self, if_true]
    rfl
  by_cases hp : pmB a b c = true
  · rw [if_pos hp, lawMay_f _ _ _ _ _ _ _ _ hp]
    simp only [Option.bind_some]
    by_cases hm : mayB a b c s8 v4 rto sh kn = true
    · rw [hm]
      simp only [annexlaw17_RtoClosed.j0, wait_f, hm, Option.bind_some, if_true]
      exact closed_l a b c l (by omega) l.length _ 0 _ _ _ _ _ hm (by omega) (by omega) (by omega) (by omega)
    · have hm : mayB a b c s8 v4 rto sh kn = false := by simpa using hm
      rw [hm]
      exact no hm
  · rw [if_neg hp]
    exact no (by cases e : mayB a b c s8 v4 rto sh kn with | false => rfl | true => exact absurd (mayB_iff.1 e).1 hp)
end Go.Proofs.YtccddkkijhedhaaDoor.Pure
