import Derived.Test.YtccddkkijhedhaaDoorPAx3
import Derived.Test.YtccddkkijhedhaaDoorPAx4
import Derived.Test.YtccddkkijhedhaaDoorPAx7
import Derived.Test.YtccddkkijhedhaaDoorPAx8
import Derived.Test.YtccddkkijhedhaaDoorPAx9
namespace Go.Proofs.YtccddkkijhedhaaDoor.Pure
open Go.RowKit Go.Proofs.YtccddkkijhedhaaDoor Go.Proofs.YtccddkkijhedhaaDoor.PA Go.Proofs.YtccddkkijhedhaaDoorW.PrintWords Go.Proofs.YtccddkkijhedhaaDoorW.PrintLast Go.Proofs.YtccddkkijhedhaaDoorW.PrintMore

theorem pmB_iff {a b c : Int} : pmB a b c = true ↔ 1 ≤ a ∧ a ≤ b ∧ b ≤ c ∧ c ≤ 1048576 := by
  simp only [pmB, Bool.and_eq_true, inRow_iff]; omega
theorem mayB_iff {a b c s8 v4 rto sh : Int} {kn : Bool} : mayB a b c s8 v4 rto sh kn = true ↔ pmB a b c = true ∧ (kn = true ∨ s8 = 0 ∧ v4 = 0) ∧ 0 ≤ s8 ∧ s8 ≤ 16777216 ∧ 0 ≤ v4 ∧ v4 ≤ 16777216 ∧ a ≤ rto ∧ rto ≤ c ∧ 0 ≤ sh ∧ sh ≤ 20 := by
  simp only [mayB, Bool.and_eq_true, inRow_iff, Bool.or_eq_true, beq_iff_eq]
  constructor
  · rintro ⟨⟨h1, h2⟩, ⟨⟨⟨h3, h4⟩, h5, h6⟩, h7, h8⟩, h9, h10⟩
    exact ⟨h1, h2, h3, h4, h5, h6, h7, h8, h9, h10⟩
  · rintro ⟨h1, h2, h3, h4, h5, h6, h7, h8, h9, h10⟩
    exact ⟨⟨h1, h2⟩, ⟨⟨⟨h3, h4⟩, h5, h6⟩, h7, h8⟩, h9, h10⟩
theorem same_self (a b c d : Int) (k : Bool) : annexref_SameEst.f a b c d k a b c d k = some true := by
  simp [annexref_SameEst.f]
/-- The document's example. -/
theorem known_true : annexlaw17_known.f = some true := by decide +kernel
theorem start_f (a b c : Int) : rto_Start.f a b c = some (if pmB a b c = true then (0, 0, b, 0, false, 0) else (0, 0, 0, 0, false, 1)) := by
  simp only [rto_Start.f, rto_paramsMay.f, Option.bind_some]
  split <;> rfl
/-- How long to wait. -/
def waitV (c rto sh : Int) : Int := mn c (rto * 2 ^ sh.toNat)
theorem pow_le20 {n : Nat} (h : n ≤ 20) : (2 : Int) ^ n ≤ 1048576 := by
  have : (2 : Nat) ^ n ≤ 2 ^ 20 := Nat.pow_le_pow_right (by decide) h
  have e : ((2 : Int) ^ n) = ((2 ^ n : Nat) : Int) := by simp
  rw [e]; omega
theorem pow_pos20 (n : Nat) : (1 : Int) ≤ (2 : Int) ^ n := by
  have : 0 < (2 : Nat) ^ n := Nat.pow_pos (by decide)
  have e : ((2 : Int) ^ n) = ((2 ^ n : Nat) : Int) := by simp
  rw [e]; omega
theorem shl_f {rto sh : Int} (h0 : 0 ≤ rto) (h1 : rto ≤ 1048576) (h2 : 0 ≤ sh) (h3 : sh ≤ 20) : shl .i64 rto sh = rto * 2 ^ sh.toNat := by
  unfold shl
  rw [Nat.min_eq_left (by have : IntKind.i64.bits = 64 := rfl; omega)]
  have p1 := pow_pos20 sh.toNat
  have p2 : (2 : Int) ^ sh.toNat ≤ 1048576 := pow_le20 (by omega)
  have hm : rto * 2 ^ sh.toNat ≤ 1048576 * 1048576 := Int.mul_le_mul h1 p2 (by omega) (by omega)
  have hp : 0 ≤ rto * 2 ^ sh.toNat := Int.mul_nonneg h0 (by omega)
  exact IntWalk.i64_in _ ⟨by omega, by omega⟩
theorem wait_f (a b c s8 v4 rto sh : Int) (kn : Bool) : rto_Wait.f a b c s8 v4 rto sh kn = some (if mayB a b c s8 v4 rto sh kn = true then waitV c rto sh else 0) := by
  simp only [rto_Wait.f, rto_may.f, Option.bind_some]
  by_cases h : mayB a b c s8 v4 rto sh kn = true
  · rw [if_pos h, if_pos h]
    obtain ⟨hp, -, -, -, -, -, h7, h8, h9, h10⟩ := mayB_iff.1 h
    obtain ⟨p1, p2, p3, p4⟩ := pmB_iff.1 hp
    rw [if_pos h9, shl_f (by omega) (by omega) h9 h10, waitV]
  · rw [if_neg h, if_neg h]
theorem expire_f (a b c s8 v4 rto sh : Int) (kn : Bool) : rto_Expire.f a b c s8 v4 rto sh kn =
    some (if mayB a b c s8 v4 rto sh kn = true then (s8, v4, rto, if waitV c rto sh < c then sh + 1 else sh, kn) else (0, 0, 0, 0, false)) := by
  simp only [rto_Expire.f, rto_may.f, Option.bind_some]
  by_cases h : mayB a b c s8 v4 rto sh kn = true
  · rw [if_pos h, if_pos h, wait_f, if_pos h]
    obtain ⟨hp, -, -, -, -, -, h7, h8, h9, h10⟩ := mayB_iff.1 h
    simp only [Option.bind_some]
    split
    · rw [show wrap64 (sh + 1) = sh + 1 by unfold wrap64; omega]
    · rfl
  · rw [if_neg h, if_neg h]
end Go.Proofs.YtccddkkijhedhaaDoor.Pure
