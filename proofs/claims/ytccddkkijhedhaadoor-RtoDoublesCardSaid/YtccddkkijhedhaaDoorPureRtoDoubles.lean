import Derived.Test.YtccddkkijhedhaaDoorMathC
import Derived.Test.YtccddkkijhedhaaDoorPAx24
namespace Go.Proofs.YtccddkkijhedhaaDoor.Pure
open Go.RowKit Go.Proofs.YtccddkkijhedhaaDoor Go.Proofs.YtccddkkijhedhaaDoor.PA Go.Proofs.YtccddkkijhedhaaDoorW.PrintWords Go.Proofs.YtccddkkijhedhaaDoorW.PrintLast Go.Proofs.YtccddkkijhedhaaDoorW.PrintMore
theorem doubles_l (a b c t s8 v4 rto s0 : Int) (kn : Bool) (h0 : mayB a b c s8 v4 rto s0 kn = true) (d : Nat) : ∀ (k : Nat) (i sh : Int), mayB a b c s8 v4 rto sh kn = true → 0 ≤ i → 20 - i = d → (waitV c rto sh = c ∨ (2 : Int) ^ i.toNat ≤ waitV c rto sh) → d < k →
    annexlaw17_RtoDoubles.l0 k t (waitV c rto sh) i a b c s8 v4 rto s0 kn s8 v4 rto sh kn = some true := by
  induction d with
  | zero =>
    intro k i sh hm hi hd hw hk
    obtain ⟨k, rfl⟩ : ∃ m, k = m + 1 := ⟨k - 1, by omega⟩
    obtain ⟨hp, -, -, -, -, -, h7, h8, -, -⟩ := mayB_iff.1 hm
    obtain ⟨p1, p2, p3, p4⟩ := pmB_iff.1 hp
    have hb := wait_bd (a := a) (c := c) (rto := rto) (sh := sh) p1 h7 h8
    have hf : waitV c rto sh = c := by
      rcases hw with hw | hw
      · exact hw
      · obtain rfl : i = 20 := by omega
        have : (2 : Int) ^ (20 : Int).toNat = 1048576 := by decide
        omega
    simp only [annexlaw17_RtoDoubles.l0]
    rw [if_neg (by omega)]
    have hm' := samp_may hm t
    simp only [samp_f, sampT, hm, h0, if_true, Option.bind_some, same_self]
    rw [if_pos hf, wait_f, if_pos hm', wait_zero (mayB_iff.1 hm').2.2.2.2.2.2.2.1]
    simp
  | succ d ih =>
    intro k i sh hm hi hd hw hk
    obtain ⟨k, rfl⟩ : ∃ m, k = m + 1 := ⟨k - 1, by omega⟩
    obtain ⟨hp, -, -, -, -, -, h7, h8, h9, -⟩ := mayB_iff.1 hm
    obtain ⟨p1, p2, p3, p4⟩ := pmB_iff.1 hp
    have hb := wait_bd (a := a) (c := c) (rto := rto) (sh := sh) p1 h7 h8
    have hm' := expire_may hm
    have hn := wait_next (c := c) (rto := rto) (sh := sh) (by omega) h8 p4 h9
    simp only [annexlaw17_RtoDoubles.l0]
    rw [if_pos (by omega), expire_f, if_pos hm]
    simp only [Option.bind_some]
    rw [wait_f, if_pos hm']
    simp only [Option.bind_some]
    rw [wC (n := 2 * waitV c rto sh) (by omega), if_pos hn, wC (n := i + 1) (by omega)]
    simp only [if_true, bne_self_eq_false, Bool.false_eq_true, if_false]
    refine ih k _ _ hm' (by omega) (by omega) ?_ (by omega)
    rw [hn]
    rcases hw with hw | hw
    · left; rw [hw]; unfold mn; split <;> omega
    · rw [show (i + 1).toNat = i.toNat + 1 by omega, Int.pow_succ]
      unfold mn
      split <;> omega
theorem RtoDoubles (a b c s8 v4 rto sh : Int) (kn : Bool) (t : Int) (_ : (Lit.int .i64 a).wf = true) (_ : (Lit.int .i64 b).wf = true) (_ : (Lit.int .i64 c).wf = true) (_ : (Lit.int .i64 s8).wf = true) (_ : (Lit.int .i64 v4).wf = true) (_ : (Lit.int .i64 rto).wf = true) (_ : (Lit.int .i64 sh).wf = true) (_ : (Lit.int .i64 t).wf = true) :
    ∃ k, annexlaw17_RtoDoubles.f k a b c s8 v4 rto sh kn t = some true := by
  refine ⟨23, ?_⟩
  simp only [annexlaw17_RtoDoubles.f, known_true, right_f, Option.bind_some, if_true]
  have no : annexlaw17_RtoDoubles.j0 23 t false a b c s8 v4 rto sh kn = some true := by
    simp only [annexlaw17_RtoDoubles.j0, Bool.false_eq_true, if_false]
  by_cases hp : pmB a b c = true
  · rw [if_pos hp, lawMay_f _ _ _ _ _ _ _ _ hp]
    simp only [Option.bind_some]
    by_cases hm : mayB a b c s8 v4 rto sh kn = true
    · rw [hm]
      obtain ⟨-, -, -, -, -, -, h7, h8, -, -⟩ := mayB_iff.1 hm
      obtain ⟨p1, p2, p3, p4⟩ := pmB_iff.1 hp
      have hb := wait_bd (a := a) (c := c) (rto := rto) (sh := sh) p1 h7 h8
      simp only [annexlaw17_RtoDoubles.j0, wait_f, hm, Option.bind_some, if_true]
      exact doubles_l a b c t s8 v4 rto sh kn hm 20 _ 0 sh hm (by omega) (by omega) (.inr (by simp; omega)) (by omega)
    · have hm : mayB a b c s8 v4 rto sh kn = false := by simpa using hm
      rw [hm]
      exact no
  · rw [if_neg hp]
    exact no
end Go.Proofs.YtccddkkijhedhaaDoor.Pure
