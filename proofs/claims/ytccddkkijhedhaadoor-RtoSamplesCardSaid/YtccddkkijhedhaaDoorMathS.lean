import Derived.Test.YtccddkkijhedhaaDoorMathF
import Derived.Test.YtccddkkijhedhaaDoorPAx14
namespace Go.Proofs.YtccddkkijhedhaaDoor.Pure
open Go.RowKit Go.Proofs.YtccddkkijhedhaaDoor Go.Proofs.YtccddkkijhedhaaDoor.PA Go.Proofs.YtccddkkijhedhaaDoorW.PrintWords Go.Proofs.YtccddkkijhedhaaDoorW.PrintLast Go.Proofs.YtccddkkijhedhaaDoorW.PrintMore

theorem w_in {n : Int} (h : -9223372036854775808 ≤ n ∧ n ≤ 9223372036854775807) : wrap64 n = n := by unfold wrap64; omega
theorem tdiv_in {x y : Int} (h0 : 0 ≤ x) (h1 : x ≤ 1000000000000) (hy : 1 ≤ y) : wrap64 (Int.tdiv x y) = x / y := by
  rw [Int.tdiv_eq_ediv_of_nonneg h0]
  have a := Int.ediv_nonneg h0 (by omega : 0 ≤ y)
  have b : x / y ≤ x := Int.ediv_le_self y h0
  exact w_in ⟨by omega, by omega⟩
theorem refSample_j3 (k : Nat) (a b c X Y Z sh : Int) (kn : Bool) (hac : a ≤ c) : annexref17_Sample.j3 (k + 1) a b c X Y Z sh kn = some (X, Y, clampR a c Z, sh, kn) := by
  simp only [annexref17_Sample.j3]
  have e : clampR a c Z = if Z < a then a else if Z > c then c else Z := by unfold clampR; split <;> (try split) <;> omega
  rw [e]
  by_cases h1 : Z < a
  · rw [if_pos h1, if_pos h1, if_neg (by omega)]
  · rw [if_neg h1, if_neg h1]
    split <;> rfl
theorem refSample_j2 (k : Nat) (a b c X Y Z sh : Int) (kn : Bool) (hac : a ≤ c) (hX : 0 ≤ X ∧ X ≤ 100000000) (hY : 0 ≤ Y ∧ Y ≤ 100000000) :
    annexref17_Sample.j2 (k + 2) a b c X Y Z sh kn = some (X, Y, clampR a c (X / 8 + max 1 Y), sh, kn) := by
  simp only [annexref17_Sample.j2]
  rw [tdiv_in hX.1 (by omega) (by omega), w_in (n := X / 8 + Y) (by omega)]
  by_cases h : Y = 0
  · rw [if_pos h, refSample_j3 _ _ _ _ _ _ _ _ _ hac, w_in (by omega), h]
    rw [show X / 8 + 0 + 1 = X / 8 + max 1 0 by omega]
  · rw [if_neg h, refSample_j3 _ _ _ _ _ _ _ _ _ hac, show max 1 Y = Y by omega]
theorem S8_bd {s8 t : Int} {kn : Bool} (h1 : 0 ≤ s8 ∧ s8 ≤ 16777216) (h2 : 1 ≤ t ∧ t ≤ 1048576) : 0 ≤ S8 s8 kn t ∧ S8 s8 kn t ≤ 16777216 := by
  unfold S8; split <;> omega
theorem V4_bd {s8 v4 t : Int} {kn : Bool} (h1 : 0 ≤ s8 ∧ s8 ≤ 16777216) (h3 : 0 ≤ v4 ∧ v4 ≤ 16777216) (h2 : 1 ≤ t ∧ t ≤ 1048576) : 0 ≤ V4 s8 v4 kn t ∧ V4 s8 v4 kn t ≤ 16777216 := by
  unfold V4; split <;> omega
theorem refSample_j1 (k : Nat) (a b c s8 v4 rto sh t : Int) (kn : Bool) (hac : a ≤ c) (h1 : 0 ≤ s8 ∧ s8 ≤ 16777216) (h3 : 0 ≤ v4 ∧ v4 ≤ 16777216) (h2 : 1 ≤ t ∧ t ≤ 1048576) :
    annexref17_Sample.j1 (k + 3) t a b c s8 v4 rto sh kn = some (S8 s8 kn t, V4 s8 v4 kn t, clampR a c (S8 s8 kn t / 8 + max 1 (V4 s8 v4 kn t)), 0, true) := by
  have bS := S8_bd (kn := kn) h1 h2
  have bV := V4_bd (kn := kn) h1 h3 h2
  simp only [annexref17_Sample.j1]
  cases kn with
  | true =>
    simp only [if_true]
    rw [tdiv_in h1.1 (by omega) (by omega), tdiv_in h3.1 (by omega) (by omega)]
    rw [w_in (n := t - s8 / 8) (by omega), w_in (n := s8 - s8 / 8) (by omega), w_in (n := s8 - s8 / 8 + t) (by omega), w_in (n := v4 - v4 / 4) (by omega), w_in (n := -(t - s8 / 8)) (by omega)]
    rw [w_in (n := v4 - v4 / 4 + -(t - s8 / 8)) (by omega), w_in (n := v4 - v4 / 4 + (t - s8 / 8)) (by omega)]
    have e1 : s8 - s8 / 8 + t = S8 s8 true t := by unfold S8; simp; omega
    by_cases h : t - s8 / 8 < 0
    · have e2 : v4 - v4 / 4 + -(t - s8 / 8) = V4 s8 v4 true t := by unfold V4; simp; omega
      rw [if_pos h, e1, e2, refSample_j2 _ _ _ _ _ _ _ _ _ hac ⟨bS.1, by omega⟩ ⟨bV.1, by omega⟩]
    · have e2 : v4 - v4 / 4 + (t - s8 / 8) = V4 s8 v4 true t := by unfold V4; simp; omega
      rw [if_neg h, e1, e2, refSample_j2 _ _ _ _ _ _ _ _ _ hac ⟨bS.1, by omega⟩ ⟨bV.1, by omega⟩]
  | false =>
    simp only [Bool.false_eq_true, if_false]
    rw [w_in (n := 8 * t) (by omega), w_in (n := 2 * t) (by omega)]
    have e1 : 8 * t = S8 s8 false t := by unfold S8; simp
    have e2 : 2 * t = V4 s8 v4 false t := by unfold V4; simp
    rw [e1, e2, refSample_j2 _ _ _ _ _ _ _ _ _ hac ⟨bS.1, by omega⟩ ⟨bV.1, by omega⟩]
/-- What a sample leaves. -/
def sampleT (a b c s8 v4 rto sh : Int) (kn : Bool) (t : Int) : Int × Int × Int × Int × Bool :=
  if mayB a b c s8 v4 rto sh kn then (S8 s8 kn (clampR 1 1048576 t), V4 s8 v4 kn (clampR 1 1048576 t), clampR a c (S8 s8 kn (clampR 1 1048576 t) / 8 + max 1 (V4 s8 v4 kn (clampR 1 1048576 t))), 0, true) else (0, 0, 0, 0, false)
theorem sample_f (a b c s8 v4 rto sh : Int) (kn : Bool) (t : Int) : rto_Sample.f a b c s8 v4 rto sh kn t = some (sampleT a b c s8 v4 rto sh kn t) := rfl
theorem refSample_f (a b c s8 v4 rto sh : Int) (kn : Bool) (t : Int) (k : Nat) (hk : 20 < k) : annexref17_Sample.f k a b c s8 v4 rto sh kn t = some (sampleT a b c s8 v4 rto sh kn t) := by
  obtain ⟨k, rfl⟩ : ∃ m, k = m + 4 := ⟨k - 4, by omega⟩
  simp only [annexref17_Sample.f, refFits_f, Option.bind_some]
  unfold sampleT
  by_cases h : mayB a b c s8 v4 rto sh kn = true
  · rw [if_pos h, if_pos h]
    obtain ⟨hp, -, h3, h4, h5, h6, h7, h8, h9, h10⟩ := mayB_iff.1 h
    obtain ⟨p1, p2, p3, p4⟩ := pmB_iff.1 hp
    have e : clampR 1 1048576 t = if t < 1 then 1 else if t > 1048576 then 1048576 else t := by unfold clampR; split <;> (try split) <;> omega
    rw [e]
    by_cases h1 : t < 1
    · rw [if_pos h1, if_pos h1]
      simp only [annexref17_Sample.j0]
      rw [if_neg (by omega)]
      exact refSample_j1 _ _ _ _ _ _ _ _ _ _ (by omega) ⟨h3, h4⟩ ⟨h5, h6⟩ (by omega)
    · rw [if_neg h1, if_neg h1]
      simp only [annexref17_Sample.j0]
      by_cases h2 : t > 1048576
      · rw [if_pos h2, if_pos h2]
        exact refSample_j1 _ _ _ _ _ _ _ _ _ _ (by omega) ⟨h3, h4⟩ ⟨h5, h6⟩ (by omega)
      · rw [if_neg h2, if_neg h2]
        exact refSample_j1 _ _ _ _ _ _ _ _ _ _ (by omega) ⟨h3, h4⟩ ⟨h5, h6⟩ (by omega)
  · rw [if_neg h, if_neg h]
end Go.Proofs.YtccddkkijhedhaaDoor.Pure
