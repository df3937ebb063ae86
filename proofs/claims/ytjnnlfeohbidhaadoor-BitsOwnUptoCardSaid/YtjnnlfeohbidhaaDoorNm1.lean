import Derived.Test.YtjnnlfeohbidhaaDoorBt2
namespace Go.Proofs.YtjnnlfeohbidhaaDoor
open Go

/-! ### Numbers and bytes -/
def Byts (bs : List Int) : Prop := ∀ x ∈ bs, 0 ≤ x ∧ x ≤ 255
theorem wrapU_in {x : Int} (h : 0 ≤ x ∧ x < 18446744073709551616) : IntKind.u64.wrap x = x := by
  simp only [IntKind.wrap, IntKind.signed, IntKind.bits]
  simp
  omega
theorem wrapU_eq (x : Int) : IntKind.u64.wrap x = x % 18446744073709551616 := by
  simp only [IntKind.wrap, IntKind.signed, IntKind.bits]
  simp
theorem wrap8_eq (x : Int) : IntKind.u8.wrap x = x % 256 := by
  simp only [IntKind.wrap, IntKind.signed, IntKind.bits]
  simp
theorem bits_or_low {x c : Int} (hx : 0 ≤ x ∧ x < 72057594037927936) (hc : 0 ≤ c ∧ c ≤ 255) : bits .or .u64 (x * 256) c = x * 256 + c := by
  obtain ⟨a, rfl⟩ := Int.eq_ofNat_of_zero_le hx.1
  obtain ⟨b, rfl⟩ := Int.eq_ofNat_of_zero_le hc.1
  have h1 : ((a : Int) * 256) = ((a * 256 : Nat) : Int) := by omega
  rw [h1]
  unfold bits
  dsimp only
  have e1 : (BitVec.ofInt IntKind.u64.bits ((a * 256 : Nat) : Int) ||| BitVec.ofInt IntKind.u64.bits ((b : Nat) : Int)).toNat = a * 256 + b := by
    have hb64 : IntKind.u64.bits = 64 := rfl
    rw [hb64, BitVec.toNat_or]
    simp only [BitVec.toNat_ofInt]
    have m1 : (((a * 256 : Nat) : Int) % ((2 ^ 64 : Nat) : Int)).toNat = a * 256 := by omega
    have m2 : (((b : Nat) : Int) % ((2 ^ 64 : Nat) : Int)).toNat = b := by omega
    rw [m1, m2]
    have := Nat.shiftLeft_add_eq_or_of_lt (b := b) (i := 8) (by omega) a
    rw [Nat.shiftLeft_eq] at this
    exact this.symm
  rw [e1, wrapU_in (by omega)]
  omega
theorem numS_eq {x c : Int} (hx : 0 ≤ x ∧ x < 72057594037927936) (hc : 0 ≤ c ∧ c ≤ 255) : numS x c = x * 256 + c := by
  unfold numS
  rw [wrapU_in (by omega), wrapU_in (by omega), bits_or_low hx hc]
def numP (x : Int) (bs : List Int) : Int := bs.foldl (fun x c => x * 256 + c) x
theorem pow256_le {i j : Nat} (h : i ≤ j) : (256 : Int) ^ i ≤ 256 ^ j := by
  obtain ⟨d, rfl⟩ := Nat.exists_eq_add_of_le h
  rw [Int.pow_add]
  have : (1 : Int) ≤ 256 ^ d := by
    induction d with
    | zero => simp
    | succ d ih => rw [Int.pow_succ]; have := ih (by omega); omega
  have h2 : (0 : Int) ≤ 256 ^ i := Int.pow_nonneg (by decide)
  have h3 := Int.mul_le_mul_of_nonneg_left this h2
  rwa [Int.mul_one] at h3
theorem num_fold : ∀ (bs : List Int) (x : Int) (j : Nat), Byts bs → j + bs.length ≤ 8 → 0 ≤ x → x < 256 ^ j → bs.foldl numS x = numP x bs ∧ 0 ≤ numP x bs ∧ numP x bs < 256 ^ (j + bs.length)
  | [], x, j, _, _, h0, h1 => ⟨rfl, h0, h1⟩
  | c :: bs, x, j, hb, hj, h0, h1 => by
    simp only [List.length_cons] at hj
    have hc := hb c (List.mem_cons_self ..)
    have h7 : x < 256 ^ 7 := by
      have := pow256_le (show j ≤ 7 by omega)
      omega
    have h7' : (256 : Int) ^ 7 = 72057594037927936 := by decide
    have he := numS_eq (x := x) (c := c) ⟨h0, by omega⟩ hc
    have hlt : x * 256 + c < 256 ^ (j + 1) := by
      rw [Int.pow_succ]
      omega
    obtain ⟨g1, g2, g3⟩ := num_fold bs (x * 256 + c) (j + 1) (fun y hy => hb y (List.mem_cons_of_mem _ hy)) (by omega) (by omega) hlt
    refine ⟨?_, g2, ?_⟩
    · rw [List.foldl_cons, he, g1]
      rfl
    · rw [show j + (c :: bs).length = j + 1 + bs.length by rw [List.length_cons]; omega]
      exact g3
theorem numR_eq {bs : List Int} (hb : Byts bs) (hl : bs.length ≤ 8) : numR bs = numP 0 bs ∧ 0 ≤ numP 0 bs ∧ numP 0 bs < 256 ^ bs.length := by
  have := num_fold bs 0 0 hb (by omega) (by decide) (by decide)
  rw [Nat.zero_add] at this
  exact this
theorem dg_byts (x : Int) : ∀ m, Byts (dg x m)
  | 0 => fun y hy => by cases hy
  | m + 1 => fun y hy => by
    rcases List.mem_cons.1 hy with rfl | hy
    · rw [wrap8_eq]; omega
    · exact dg_byts x m y hy
theorem numP_dg (x : Int) : ∀ (m : Nat) (y : Int), numP y (dg x m) = y * 256 ^ m + x % 256 ^ m
  | 0, y => by simp [numP, dg, Int.emod_one]
  | m + 1, y => by
    have ih := numP_dg x m (y * 256 + x / 2 ^ (8 * m) % 256)
    show numP (y * 256 + IntKind.u8.wrap (x / 2 ^ (8 * m))) (dg x m) = _
    rw [wrap8_eq, ih]
    have e1 : (2 : Int) ^ (8 * m) = 256 ^ m := by
      rw [Int.pow_mul]
      rfl
    rw [e1, Int.pow_succ]
    have hp : (0 : Int) < 256 ^ m := Int.pow_pos (by decide)
    have h1 := Int.mul_ediv_add_emod x (256 ^ m)
    have h2 : x % (256 ^ m * 256) = 256 ^ m * (x / 256 ^ m % 256) + x % 256 ^ m := by
      have h3 := Int.mul_ediv_add_emod (x / 256 ^ m) 256
      have h4 : x = 256 ^ m * 256 * (x / 256 ^ m / 256) + (256 ^ m * (x / 256 ^ m % 256) + x % 256 ^ m) := by
        have key : ∀ p Q q1 q0 r : Int, p * Q + r = x → 256 * q1 + q0 = Q → x = p * 256 * q1 + (p * q0 + r) := by
          intro p Q q1 q0 r e1 e2
          rw [← e1, ← e2, Int.mul_add, ← Int.mul_assoc, Int.add_assoc]
        exact key _ _ _ _ _ h1 h3
      have hr0 : 0 ≤ x % 256 ^ m := Int.emod_nonneg _ (by omega)
      have hr1 : x % 256 ^ m < 256 ^ m := Int.emod_lt_of_pos _ hp
      have hq0 : 0 ≤ x / 256 ^ m % 256 := Int.emod_nonneg _ (by decide)
      have hq1 : x / 256 ^ m % 256 < 256 := Int.emod_lt_of_pos _ (by decide)
      have hlow : 0 ≤ 256 ^ m * (x / 256 ^ m % 256) + x % 256 ^ m := by
        have := Int.mul_nonneg (Int.le_of_lt hp) hq0
        omega
      have hhigh : 256 ^ m * (x / 256 ^ m % 256) + x % 256 ^ m < 256 ^ m * 256 := by
        have h5 : 256 ^ m * (x / 256 ^ m % 256) ≤ 256 ^ m * 255 := Int.mul_le_mul_of_nonneg_left (by omega) (Int.le_of_lt hp)
        have h6 : (256 : Int) ^ m * 256 = 256 ^ m * 255 + 256 ^ m := by rw [show (256 : Int) = 255 + 1 by rfl, Int.mul_add, Int.mul_one]
        omega
      have h7 := Int.add_mul_emod_self_left (256 ^ m * (x / 256 ^ m % 256) + x % 256 ^ m) (256 ^ m * 256) (x / 256 ^ m / 256)
      rw [Int.emod_eq_of_lt hlow hhigh] at h7
      rw [← h7, Int.add_comm, ← h4]
    rw [h2]
    rw [Int.add_mul, Int.mul_assoc y 256 _, Int.mul_comm 256 (256 ^ m), Int.mul_comm (x / 256 ^ m % 256) (256 ^ m), Int.add_assoc]
/-- What was laid is read back, modulo 256 to the m. -/
theorem numR_dg (x : Int) {m : Nat} (hm : m ≤ 8) : numR (dg x m) = x % 256 ^ m := by
  rw [(numR_eq (dg_byts x m) (by rw [dg_len]; exact hm)).1, numP_dg]
  simp
end Go.Proofs.YtjnnlfeohbidhaaDoor
