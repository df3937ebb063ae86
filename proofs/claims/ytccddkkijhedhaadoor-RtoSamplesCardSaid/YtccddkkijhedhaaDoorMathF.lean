import Derived.Test.YtccddkkijhedhaaDoorMathR
import Derived.Test.YtccddkkijhedhaaDoorPAx13
import Derived.Test.YtccddkkijhedhaaDoorPAx16
import Derived.Test.YtccddkkijhedhaaDoorPAx17
namespace Go.Proofs.YtccddkkijhedhaaDoor.Pure
open Go.RowKit Go.Proofs.YtccddkkijhedhaaDoor Go.Proofs.YtccddkkijhedhaaDoor.PA Go.Proofs.YtccddkkijhedhaaDoorW.PrintWords Go.Proofs.YtccddkkijhedhaaDoorW.PrintLast Go.Proofs.YtccddkkijhedhaaDoorW.PrintMore

theorem refFits_f (a b c s8 v4 rto sh : Int) (kn : Bool) : annexref17_Fits.f a b c s8 v4 rto sh kn = some (mayB a b c s8 v4 rto sh kn) := by
  simp only [annexref17_Fits.f, refRight_f, Option.bind_some]
  by_cases hp : pmB a b c = true
  · rw [if_pos hp]
    repeat' split
    all_goals (congr 1; rw [Bool.eq_iff_iff, mayB_iff]; simp [*]; try omega)
  · rw [if_neg hp]
    congr 1
    rw [Bool.eq_iff_iff, mayB_iff]
    simp [hp]
/-- The reference's loop: it doubles till the bound. -/
theorem refWait_l (a b c s8 v4 rto sh : Int) (kn : Bool) (hc : c ≤ 1048576) (hsh : sh ≤ 20) (d : Nat) : ∀ (k : Nat) (x i : Int), 0 ≤ x → x ≤ 2097152 → 0 ≤ i → i ≤ sh → sh - i = d → d < k →
    annexref17_Wait.l0 k x i a b c s8 v4 rto sh kn = some (mn c (x * 2 ^ d)) := by
  induction d with
  | zero =>
    intro k x i hx0 hx1 hi0 hi hd hk
    obtain ⟨k, rfl⟩ : ∃ m, k = m + 1 := ⟨k - 1, by omega⟩
    simp only [annexref17_Wait.l0]
    rw [if_neg (by omega), Int.pow_zero, Int.mul_one]
    unfold mn
    by_cases h1 : x > c
    · rw [if_pos h1]; congr 1; split <;> omega
    · rw [if_neg h1]; congr 1; split <;> omega
  | succ d ih =>
    intro k x i hx0 hx1 hi0 hi hd hk
    obtain ⟨k, rfl⟩ : ∃ m, k = m + 1 := ⟨k - 1, by omega⟩
    simp only [annexref17_Wait.l0]
    rw [if_pos (by omega)]
    by_cases hxc : x < c
    · rw [if_pos hxc, show wrap64 (2 * x) = 2 * x by unfold wrap64; omega, show wrap64 (i + 1) = i + 1 by unfold wrap64; omega, ih k (2 * x) (i + 1) (by omega) (by omega) (by omega) (by omega) (by omega) (by omega)]
      rw [Int.pow_succ]
      congr 2
      rw [Int.mul_comm 2 x, Int.mul_assoc, Int.mul_comm 2]
    · rw [if_neg hxc]
      have hp := pow_pos20 (d + 1)
      have hm : x * 1 ≤ x * 2 ^ (d + 1) := Int.mul_le_mul_of_nonneg_left hp hx0
      unfold mn
      by_cases h1 : x > c
      · rw [if_pos h1]; congr 1; split <;> omega
      · rw [if_neg h1]; congr 1; split <;> omega
theorem refWait_f (a b c s8 v4 rto sh : Int) (kn : Bool) (k : Nat) (hk : 20 < k) : annexref17_Wait.f k a b c s8 v4 rto sh kn = some (if mayB a b c s8 v4 rto sh kn = true then waitV c rto sh else 0) := by
  simp only [annexref17_Wait.f, refFits_f, Option.bind_some]
  by_cases h : mayB a b c s8 v4 rto sh kn = true
  · rw [if_pos h, if_pos h]
    obtain ⟨hp, -, -, -, -, -, h7, h8, h9, h10⟩ := mayB_iff.1 h
    obtain ⟨p1, p2, p3, p4⟩ := pmB_iff.1 hp
    rw [refWait_l a b c s8 v4 rto sh kn p4 h10 sh.toNat k rto 0 (by omega) (by omega) (by omega) (by omega) (by omega) (by omega)]
    rfl
  · rw [if_neg h, if_neg h]
theorem refExpire_f (a b c s8 v4 rto sh : Int) (kn : Bool) (k : Nat) (hk : 20 < k) : annexref17_Expire.f k a b c s8 v4 rto sh kn =
    some (if mayB a b c s8 v4 rto sh kn = true then (s8, v4, rto, if waitV c rto sh < c then sh + 1 else sh, kn) else (0, 0, 0, 0, false)) := by
  simp only [annexref17_Expire.f, refFits_f, Option.bind_some]
  by_cases h : mayB a b c s8 v4 rto sh kn = true
  · rw [if_pos h, if_pos h, refWait_f _ _ _ _ _ _ _ _ k hk, if_pos h]
    obtain ⟨hp, -, -, -, -, -, h7, h8, h9, h10⟩ := mayB_iff.1 h
    simp only [Option.bind_some]
    split
    · rw [show wrap64 (sh + 1) = sh + 1 by unfold wrap64; omega]
    · rfl
  · rw [if_neg h, if_neg h]
end Go.Proofs.YtccddkkijhedhaaDoor.Pure
