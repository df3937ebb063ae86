import Derived.Test.YtccddkkijhedhaaDoorMathA
import Derived.Test.YtccddkkijhedhaaDoorPAx21
import Derived.Test.YtccddkkijhedhaaDoorPAx22
namespace Go.Proofs.YtccddkkijhedhaaDoor.Pure
open Go.RowKit Go.Proofs.YtccddkkijhedhaaDoor Go.Proofs.YtccddkkijhedhaaDoor.PA Go.Proofs.YtccddkkijhedhaaDoorW.PrintWords Go.Proofs.YtccddkkijhedhaaDoorW.PrintLast Go.Proofs.YtccddkkijhedhaaDoorW.PrintMore

theorem right_f (a b c : Int) : annexlaw17_right.f a b c = some (pmB a b c) := by
  simp only [annexlaw17_right.f]
  repeat' split
  all_goals (congr 1; rw [Bool.eq_iff_iff, pmB_iff]; simp; try omega)
theorem lawMay_f (a b c s8 v4 rto sh : Int) (kn : Bool) (hp : pmB a b c = true) : annexlaw17_may.f a b c s8 v4 rto sh kn = some (mayB a b c s8 v4 rto sh kn) := by
  simp only [annexlaw17_may.f]
  repeat' split
  all_goals (congr 1; rw [Bool.eq_iff_iff, mayB_iff]; simp [*]; try omega)
theorem wC {n : Int} (h : -9223372036854775808 ≤ n ∧ n ≤ 9223372036854775807) : wrap64 n = n := by unfold wrap64; omega
theorem tdivC {x y : Int} (h0 : 0 ≤ x) (h1 : x ≤ 1000000000000) (hy : 1 ≤ y) : wrap64 (Int.tdiv x y) = x / y := by
  rw [Int.tdiv_eq_ediv_of_nonneg h0]
  have a := Int.ediv_nonneg h0 (by omega : 0 ≤ y)
  have b : x / y ≤ x := Int.ediv_le_self y h0
  exact wC ⟨by omega, by omega⟩
theorem S8_bound {s8 t : Int} {kn : Bool} (h1 : 0 ≤ s8 ∧ s8 ≤ 16777216) (h2 : 1 ≤ t ∧ t ≤ 1048576) : 0 ≤ S8 s8 kn t ∧ S8 s8 kn t ≤ 16777216 := by
  unfold S8; split <;> omega
theorem V4_bound {s8 v4 t : Int} {kn : Bool} (h1 : 0 ≤ s8 ∧ s8 ≤ 16777216) (h3 : 0 ≤ v4 ∧ v4 ≤ 16777216) (h2 : 1 ≤ t ∧ t ≤ 1048576) : 0 ≤ V4 s8 v4 kn t ∧ V4 s8 v4 kn t ≤ 16777216 := by
  unfold V4; split <;> omega
theorem clampR_bd {l m x : Int} (h : l ≤ m) : l ≤ clampR l m x ∧ clampR l m x ≤ m := by unfold clampR; omega
/-- What a sample leaves. -/
def sampT (a b c s8 v4 rto sh : Int) (kn : Bool) (t : Int) : Int × Int × Int × Int × Bool :=
  if mayB a b c s8 v4 rto sh kn then (S8 s8 kn (clampR 1 1048576 t), V4 s8 v4 kn (clampR 1 1048576 t), clampR a c (S8 s8 kn (clampR 1 1048576 t) / 8 + max 1 (V4 s8 v4 kn (clampR 1 1048576 t))), 0, true) else (0, 0, 0, 0, false)
theorem samp_f (a b c s8 v4 rto sh : Int) (kn : Bool) (t : Int) : rto_Sample.f a b c s8 v4 rto sh kn t = some (sampT a b c s8 v4 rto sh kn t) := rfl
theorem samp_may {a b c s8 v4 rto sh : Int} {kn : Bool} (h : mayB a b c s8 v4 rto sh kn = true) (t : Int) :
    mayB a b c (S8 s8 kn (clampR 1 1048576 t)) (V4 s8 v4 kn (clampR 1 1048576 t)) (clampR a c (S8 s8 kn (clampR 1 1048576 t) / 8 + max 1 (V4 s8 v4 kn (clampR 1 1048576 t)))) 0 true = true := by
  obtain ⟨hp, -, h3, h4, h5, h6, -, -, -, -⟩ := mayB_iff.1 h
  obtain ⟨p1, p2, p3, p4⟩ := pmB_iff.1 hp
  have ht := clampR_bd (l := 1) (m := 1048576) (x := t) (by omega)
  have b1 := S8_bound (kn := kn) ⟨h3, h4⟩ ht
  have b2 := V4_bound (kn := kn) ⟨h3, h4⟩ ⟨h5, h6⟩ ht
  have b3 := clampR_bd (l := a) (m := c) (x := S8 s8 kn (clampR 1 1048576 t) / 8 + max 1 (V4 s8 v4 kn (clampR 1 1048576 t))) (by omega)
  exact mayB_iff.2 ⟨hp, .inl rfl, b1.1, b1.2, b2.1, b2.2, b3.1, b3.2, by omega, by omega⟩
theorem mul_pow_ge {r : Int} (h : 0 ≤ r) (n : Nat) : r ≤ r * 2 ^ n := by
  have := Int.mul_le_mul_of_nonneg_left (pow_pos20 n) h
  omega
theorem wait_bd {a c rto sh : Int} (h1 : 1 ≤ a) (h2 : a ≤ rto) (h3 : rto ≤ c) : a ≤ waitV c rto sh ∧ waitV c rto sh ≤ c := by
  have := mul_pow_ge (by omega : 0 ≤ rto) sh.toNat
  unfold waitV mn
  split <;> omega
theorem wait_zero {c rto : Int} (h : rto ≤ c) : waitV c rto 0 = rto := by
  unfold waitV mn
  rw [show (0 : Int).toNat = 0 from rfl, Int.pow_zero, Int.mul_one]
  split <;> omega
theorem wait_full {c rto sh : Int} (h1 : 1 ≤ rto) (hc : c ≤ 1048576) (hs : 20 ≤ sh) : waitV c rto sh = c := by
  have h20 : (1048576 : Int) ≤ 2 ^ sh.toNat := by
    have : (2 : Nat) ^ 20 ≤ 2 ^ sh.toNat := Nat.pow_le_pow_right (by decide) (by omega)
    have e : ((2 : Int) ^ sh.toNat) = ((2 ^ sh.toNat : Nat) : Int) := by simp
    rw [e]; omega
  have := Int.mul_le_mul h1 h20 (by omega) (by omega : 0 ≤ rto)
  unfold waitV mn
  split <;> omega
theorem wait_next {c rto sh : Int} (h1 : 1 ≤ rto) (h2 : rto ≤ c) (_ : c ≤ 1048576) (hs : 0 ≤ sh) : waitV c rto (if waitV c rto sh < c then sh + 1 else sh) = mn c (2 * waitV c rto sh) := by
  by_cases h : waitV c rto sh < c
  · rw [if_pos h]
    have e : waitV c rto sh = rto * 2 ^ sh.toNat := by
      revert h; unfold waitV mn; split <;> omega
    rw [e]
    unfold waitV
    rw [show (sh + 1).toNat = sh.toNat + 1 by omega, Int.pow_succ, ← Int.mul_assoc, Int.mul_comm _ 2]
  · rw [if_neg h]
    have b := (wait_bd (a := 1) (c := c) (rto := rto) (sh := sh) (by omega) h1 h2).2
    have e : waitV c rto sh = c := by omega
    rw [e]
    unfold mn
    split <;> omega
theorem expire_may {a b c s8 v4 rto sh : Int} {kn : Bool} (h : mayB a b c s8 v4 rto sh kn = true) : mayB a b c s8 v4 rto (if waitV c rto sh < c then sh + 1 else sh) kn = true := by
  obtain ⟨hp, h2, h3, h4, h5, h6, h7, h8, h9, h10⟩ := mayB_iff.1 h
  obtain ⟨p1, p2, p3, p4⟩ := pmB_iff.1 hp
  refine mayB_iff.2 ⟨hp, h2, h3, h4, h5, h6, h7, h8, ?_, ?_⟩
  · split <;> omega
  · split <;> rename_i hw
    · by_cases e : sh = 20
      · rw [wait_full (by omega) p4 (by omega)] at hw; omega
      · omega
    · omega
end Go.Proofs.YtccddkkijhedhaaDoor.Pure
