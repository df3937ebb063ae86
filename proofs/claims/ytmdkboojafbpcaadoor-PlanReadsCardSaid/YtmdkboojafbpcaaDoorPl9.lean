import Derived.Test.YtmdkboojafbpcaaDoorPl7
import Derived.Laws.Strings
namespace Go.Proofs.YtmdkboojafbpcaaDoor
open Go Go.Proofs
theorem numP_inj : ∀ (xs ys : List Int) (a b : Int), xs.length = ys.length → Byts xs → Byts ys → numP a xs = numP b ys → a = b ∧ xs = ys
  | [], [], _, _, _, _, _, h => ⟨h, rfl⟩
  | [], _ :: _, _, _, hl, _, _, _ => by simp at hl
  | _ :: _, [], _, _, hl, _, _, _ => by simp at hl
  | x :: xs, y :: ys, a, b, hl, hx, hy, h => by
    obtain ⟨h1, h2⟩ := numP_inj xs ys (a * 256 + x) (b * 256 + y) (by simpa using hl) (fun z hz => hx z (.tail _ hz)) (fun z hz => hy z (.tail _ hz)) h
    have i1 := hx x (.head _)
    have i2 := hy y (.head _)
    have hxy : x = y := by omega
    subst hxy
    exact ⟨by omega, by rw [h2]⟩
theorem numR_inj {xs ys : List Int} (hl : xs.length = ys.length) (h8 : xs.length ≤ 8) (hx : Byts xs) (hy : Byts ys) (h : numR xs = numR ys) : xs = ys := by
  rw [(numR_eq hx h8).1, (numR_eq hy (hl ▸ h8)).1] at h
  exact (numP_inj _ _ 0 0 hl hx hy h).2
theorem dg_num {l : List Int} {m : Nat} (hb : Byts l) (hm : l.length = m) (h8 : m ≤ 8) : dg (numR l) m = l := by
  subst hm
  obtain ⟨e, h0, h1⟩ := numR_eq hb h8
  refine (numP_inj _ _ 0 0 (dg_len _ _) (dg_byts _ _) hb ?_).2
  rw [numP_dg, e, Int.emod_eq_of_lt h0 h1]
  omega
theorem u8_inj {a : Int} {k : Nat} (ha : 0 ≤ a ∧ a ≤ 255) (hk : k < 256) (h : UInt8.ofNat a.toNat = UInt8.ofNat k) : a = k := by
  have := congrArg UInt8.toNat h
  simp only [UInt8.toNat_ofNat'] at this
  omega
theorem mg_take {bs : List Int} (hb : Byts bs) (hl : 4 ≤ bs.length) (h : mg bs = true) : bs.take 4 = [65, 78, 88, 83] := by
  match bs, hl with
  | a :: b :: c :: d :: t, _ =>
    unfold mg at h
    rw [ByteArray.toList_eq, ByteArray.toList_eq] at h
    have h1 : ([UInt8.ofNat a.toNat, UInt8.ofNat b.toNat, UInt8.ofNat c.toNat, UInt8.ofNat d.toNat] : List UInt8) = [UInt8.ofNat 65, UInt8.ofNat 78, UInt8.ofNat 88, UInt8.ofNat 83] := eq_of_beq h
    simp only [List.cons.injEq, and_true] at h1
    have ha := hb a (by simp)
    have hb' := hb b (by simp)
    have hc := hb c (by simp)
    have hd := hb d (by simp)
    have e1 := u8_inj ha (by decide) h1.1
    have e2 := u8_inj hb' (by decide) h1.2.1
    have e3 := u8_inj hc (by decide) h1.2.2.1
    have e4 := u8_inj hd (by decide) h1.2.2.2
    subst e1 e2 e3 e4
    rfl
theorem Byts.drop {l : List Int} (h : Byts l) (n : Nat) : Byts (l.drop n) := fun x hx => h x (List.mem_of_mem_drop hx)
theorem Byts.take {l : List Int} (h : Byts l) (n : Nat) : Byts (l.take n) := fun x hx => h x (List.mem_of_mem_take hx)
theorem numX_dg {bs : List Int} (hb : Byts bs) (k j : Nat) (hj : j = 4 + 4 * k) (hl : j + 4 ≤ bs.length) : dg (IntKind.u64.wrap (numX bs k)) 4 = (bs.drop j).take 4 := by
  subst hj
  have hb4 : Byts ((bs.drop (4 + 4 * k)).take 4) := (hb.drop _).take _
  have hl4 : ((bs.drop (4 + 4 * k)).take 4).length = 4 := by rw [List.length_take, List.length_drop]; omega
  obtain ⟨h1, h2, h3⟩ := numR_eq hb4 (by omega)
  have h4 := pow256_le (Nat.le_of_eq hl4)
  have h5 : (256 : Int) ^ 4 = 4294967296 := by decide
  unfold numX
  rw [List.drop_drop, IntWalk.i64_in _ (by rw [h1]; omega), wrapU_in (by rw [h1]; omega)]
  exact dg_num hb4 hl4 (by decide)
theorem take4 (bs : List Int) (i j : Nat) (hj : j = i + 4) : bs.take j = bs.take i ++ (bs.drop i).take 4 := by
  subst hj
  exact List.take_add
/-- What is read as a superblock is the superblock of what is read. -/
theorem read_inv {bs : List Int} {s : Shp} (hb : Byts bs) (h : readR bs = (s, 0)) : superR s = bs ∧ (planR s).2 = 0 := by
  unfold readR at h
  split at h
  · rename_i h1
    obtain ⟨hl, hm⟩ := h1
    split at h
    · rename_i hs
      split at h
      · rename_i hz
        split at h
        · rename_i hp
          injection h with h _
          subst h
          refine ⟨?_, hp⟩
          have e36 : hdR (rdShp bs) = bs.take 36 := by
            show hdN (rdShp bs) 8 = _
            unfold hdN
            have : (rdShp bs).l.take 8 = [numX bs 0, numX bs 1, numX bs 2, numX bs 3, numX bs 4, numX bs 5, numX bs 6, numX bs 7] := rfl
            rw [this]
            simp only [List.flatMap_cons, List.flatMap_nil, List.append_nil]
            rw [numX_dg hb 0 4 rfl (by omega), numX_dg hb 1 8 rfl (by omega), numX_dg hb 2 12 rfl (by omega), numX_dg hb 3 16 rfl (by omega), numX_dg hb 4 20 rfl (by omega), numX_dg hb 5 24 rfl (by omega), numX_dg hb 6 28 rfl (by omega), numX_dg hb 7 32 rfl (by omega)]
            rw [take4 bs 32 36 rfl, take4 bs 28 32 rfl, take4 bs 24 28 rfl, take4 bs 20 24 rfl, take4 bs 16 20 rfl, take4 bs 12 16 rfl, take4 bs 8 12 rfl, take4 bs 4 8 rfl, mg_take hb (by omega) hm]
            simp only [List.append_assoc]
          have e44 : bs.drop 44 = List.replicate 468 0 := List.eq_replicate_iff.2 ⟨by rw [List.length_drop]; omega, hz⟩
          have e8 : dg (sumR off0 (bs.take 36)) 8 = (bs.drop 36).take 8 := by
            rw [← hs, List.drop_drop]
            exact dg_num ((hb.drop _).take _) (by rw [List.length_take, List.length_drop]; omega) (by decide)
          unfold superR
          rw [e36, e8, ← e44, List.append_assoc]
          have : bs.drop 44 = (bs.drop 36).drop 8 := by rw [List.drop_drop]
          rw [this, List.take_append_drop, List.take_append_drop]
        · rename_i hp; injection h with _ h; exact absurd h hp
      · injection h with _ h; cases h
    · injection h with _ h; cases h
  · injection h with _ h; cases h
theorem read_bad {bs : List Int} {s : Shp} {e : Int} (h : readR bs = (s, e)) (he : e ≠ 0) : s = .z := by
  unfold readR at h
  repeat' split at h
  all_goals (injection h with h1 h2; first | exact h1.symm | exact absurd h2.symm he)
theorem xor_u64 {a b : Int} (ha : 0 ≤ a ∧ a < 18446744073709551616) (hb : 0 ≤ b ∧ b < 18446744073709551616) : bits .xor .u64 a b = ((a.toNat ^^^ b.toNat : Nat) : Int) := by
  obtain ⟨a, rfl⟩ := Int.eq_ofNat_of_zero_le ha.1
  obtain ⟨b, rfl⟩ := Int.eq_ofNat_of_zero_le hb.1
  unfold bits
  dsimp only
  have hlt : a ^^^ b < 2 ^ 64 := Nat.xor_lt_two_pow (by omega) (by omega)
  have e1 : (BitVec.ofInt IntKind.u64.bits (a : Int) ^^^ BitVec.ofInt IntKind.u64.bits (b : Int)).toNat = a ^^^ b := by
    have hb64 : IntKind.u64.bits = 64 := rfl
    rw [hb64, BitVec.toNat_xor]
    simp only [BitVec.toNat_ofInt]
    have m1 : ((a : Int) % ((2 ^ 64 : Nat) : Int)).toNat = a := by omega
    have m2 : ((b : Int) % ((2 ^ 64 : Nat) : Int)).toNat = b := by omega
    rw [m1, m2]
  rw [e1, wrapU_in (by omega)]
  rfl
theorem xor_u8 {a b : Int} (ha : 0 ≤ a ∧ a ≤ 255) (hb : 0 ≤ b ∧ b ≤ 255) : bits .xor .u8 a b = ((a.toNat ^^^ b.toNat : Nat) : Int) := by
  obtain ⟨a, rfl⟩ := Int.eq_ofNat_of_zero_le ha.1
  obtain ⟨b, rfl⟩ := Int.eq_ofNat_of_zero_le hb.1
  unfold bits
  dsimp only
  have hlt : a ^^^ b < 2 ^ 8 := Nat.xor_lt_two_pow (by omega) (by omega)
  have e1 : (BitVec.ofInt IntKind.u8.bits (a : Int) ^^^ BitVec.ofInt IntKind.u8.bits (b : Int)).toNat = a ^^^ b := by
    have hb8 : IntKind.u8.bits = 8 := rfl
    rw [hb8, BitVec.toNat_xor]
    simp only [BitVec.toNat_ofInt]
    have m1 : ((a : Int) % ((2 ^ 8 : Nat) : Int)).toNat = a := by omega
    have m2 : ((b : Int) % ((2 ^ 8 : Nat) : Int)).toNat = b := by omega
    rw [m1, m2]
  rw [e1, wrap8_eq]
  show ((a ^^^ b : Nat) : Int) % 256 = ((a ^^^ b : Nat) : Int)
  omega
theorem nxor_r {a b c : Nat} (h : a ^^^ c = b ^^^ c) : a = b := by
  have := congrArg (· ^^^ c) h
  simpa [Nat.xor_assoc, Nat.xor_self, Nat.xor_zero] using this
theorem nxor_l {a b c : Nat} (h : a ^^^ b = a ^^^ c) : b = c := nxor_r (c := a) (by rw [Nat.xor_comm b, Nat.xor_comm c]; exact h)
theorem step_back {x : Int} (hx : 0 ≤ x ∧ x < 18446744073709551616) : (x * 1099511628211 % 18446744073709551616) * 14886173955864302971 % 18446744073709551616 = x := by
  rw [Int.mul_emod, Int.emod_emod, ← Int.mul_emod, Int.mul_assoc, show (1099511628211 : Int) * 14886173955864302971 = 1 + 18446744073709551616 * 887285111055 by decide, Int.mul_add, Int.mul_one, Int.mul_left_comm, Int.add_mul_emod_self_left, Int.emod_eq_of_lt hx.1 hx.2]
theorem step_mul {x y : Int} (hx : 0 ≤ x ∧ x < 18446744073709551616) (hy : 0 ≤ y ∧ y < 18446744073709551616) (h : IntKind.u64.wrap (x * 1099511628211) = IntKind.u64.wrap (y * 1099511628211)) : x = y := by
  rw [wrapU_eq, wrapU_eq] at h
  rw [← step_back hx, h, step_back hy]
theorem step_inj {h g x y : Int} (hh : 0 ≤ h ∧ h < 18446744073709551616) (hg : 0 ≤ g ∧ g < 18446744073709551616) (hx : 0 ≤ x ∧ x ≤ 255) (hy : 0 ≤ y ∧ y ≤ 255) (e : stepS h x = stepS g y) : h.toNat ^^^ x.toNat = g.toNat ^^^ y.toNat := by
  unfold stepS at e
  rw [wrapU_in (x := x) (by omega), wrapU_in (x := y) (by omega), xor_u64 hh (by omega), xor_u64 hg (by omega)] at e
  have l1 : h.toNat ^^^ x.toNat < 2 ^ 64 := Nat.xor_lt_two_pow (by omega) (by omega)
  have l2 : g.toNat ^^^ y.toNat < 2 ^ 64 := Nat.xor_lt_two_pow (by omega) (by omega)
  have := step_mul (by omega) (by omega) e
  omega
theorem sum_inj : ∀ (l : List Int) (h g : Int), Byts l → 0 ≤ h ∧ h < 18446744073709551616 → 0 ≤ g ∧ g < 18446744073709551616 → sumR h l = sumR g l → h = g
  | [], _, _, _, _, _, e => e
  | x :: l, h, g, hb, hh, hg, e => by
    have := sum_inj l (stepS h x) (stepS g x) (fun z hz => hb z (.tail _ hz)) (stepS_in h x) (stepS_in g x) e
    have := nxor_r (step_inj hh hg (hb x (.head _)) (hb x (.head _)) this)
    omega
theorem sum_set : ∀ (l : List Int) (h : Int) (a : Nat) (y : Int), Byts l → 0 ≤ h ∧ h < 18446744073709551616 → 0 ≤ y ∧ y ≤ 255 → sumR h (l.set a y) = sumR h l → l.set a y = l
  | [], _, _, _, _, _, _, _ => rfl
  | x :: l, h, 0, y, hb, hh, hy, e => by
    have e1 := sum_inj l (stepS h y) (stepS h x) (fun z hz => hb z (.tail _ hz)) (stepS_in h y) (stepS_in h x) e
    have e2 := nxor_l (step_inj hh hh hy (hb x (.head _)) e1)
    have := hb x (.head _)
    have : y = x := by omega
    rw [this, List.set_cons_zero]
  | x :: l, h, a + 1, y, hb, hh, hy, e => by
    rw [List.set_cons_succ] at e ⊢
    rw [sum_set l (stepS h x) a y (fun z hz => hb z (.tail _ hz)) (stepS_in h x) hy e]
theorem xor_other {c x : Int} (hc : 0 ≤ c ∧ c ≤ 255) (hx : 1 ≤ x ∧ x ≤ 255) : (0 ≤ bits .xor .u8 c (IntKind.u8.wrap x) ∧ bits .xor .u8 c (IntKind.u8.wrap x) ≤ 255) ∧ bits .xor .u8 c (IntKind.u8.wrap x) ≠ c := by
  have e : IntKind.u8.wrap x = x := by rw [wrap8_eq]; omega
  have hlt : c.toNat ^^^ x.toNat < 2 ^ 8 := Nat.xor_lt_two_pow (by omega) (by omega)
  rw [e, xor_u8 hc (by omega)]
  refine ⟨by omega, fun h => ?_⟩
  have h1 : c.toNat ^^^ x.toNat = c.toNat ^^^ 0 := by rw [Nat.xor_zero]; omega
  have := nxor_l h1
  omega
/-- A superblock with one byte changed is not read. -/
theorem read_rot {s : Shp} {a : Nat} {y : Int} (ha : a < 512) (hy : 0 ≤ y ∧ y ≤ 255) (hne : (superR s)[a]? ≠ some y) : (readR ((superR s).set a y)).2 = 61 ∨ (readR ((superR s).set a y)).2 = 62 := by
  have hl := superR_len s
  have hb := superR_byts s
  have hb' : Byts ((superR s).set a y) := fun x hx => by
    rcases List.mem_or_eq_of_mem_set hx with h | rfl
    · exact hb x h
    · exact hy
  have key : (superR s).set a y ≠ superR s := fun h => hne (by rw [← h, List.getElem?_set_self (by omega)])
  unfold readR
  split
  · rename_i h1
    obtain ⟨hl', hm⟩ := h1
    split
    · rename_i hs
      split
      · rename_i hz
        exfalso
        apply key
        have hl4 : ((superR s).set a y).length = 512 := hl'
        have t4 : ((superR s).set a y).take 4 = (superR s).take 4 := by rw [mg_take hb' (by omega) hm, mg_take hb (by omega) (mg_super s)]
        have d44 : ((superR s).set a y).drop 44 = (superR s).drop 44 := by
          rw [drop44]
          exact List.eq_replicate_iff.2 ⟨by rw [List.length_drop]; omega, hz⟩
        have split3 : ∀ l : List Int, l = l.take 36 ++ ((l.drop 36).take 8 ++ l.drop 44) := fun l => by
          have : l.drop 44 = (l.drop 36).drop 8 := by rw [List.drop_drop]
          rw [this, List.take_append_drop, List.take_append_drop]
        have hs0 := sum_super s
        rw [List.drop_drop] at hs hs0
        by_cases h36 : a < 36
        · have d36 : ((superR s).set a y).drop 36 = (superR s).drop 36 := by rw [List.drop_set, if_pos h36]
          have t36 : ((superR s).set a y).take 36 = ((superR s).take 36).set a y := List.take_set
          rw [show (4 : Nat) + 32 = 36 from rfl, d36, hs0, t36] at hs
          have := sum_set _ _ _ _ (hb.take 36) (by decide) hy hs.symm
          rw [split3 ((superR s).set a y), t36, this, d36, d44]
          exact (split3 _).symm
        · have t36 : ((superR s).set a y).take 36 = (superR s).take 36 := List.take_set_of_le (by omega)
          rw [t36, ← hs0] at hs
          have := numR_inj (by rw [List.length_take, List.length_take, List.length_drop, List.length_drop, hl4, hl]) (by rw [List.length_take]; omega) ((hb'.drop _).take _) ((hb.drop _).take _) hs
          rw [split3 ((superR s).set a y), t36, this, d44]
          exact (split3 _).symm
      · exact .inl rfl
    · exact .inr rfl
  · exact .inl rfl
end Go.Proofs.YtmdkboojafbpcaaDoor
