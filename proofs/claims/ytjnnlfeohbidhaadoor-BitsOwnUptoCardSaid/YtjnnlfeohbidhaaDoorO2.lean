import Derived.Test.YtjnnlfeohbidhaaDoorO1
import Derived.Test.YtjnnlfeohbidhaaDoorL8
namespace Go.Proofs.YtjnnlfeohbidhaaDoor
open Go Go.Proofs Go.RowKit
set_option maxRecDepth 4000

/-! ### What the readers of BitsOwn read -/
theorem xor_one (a : Nat) : a ^^^ 1 = if a % 2 = 0 then a + 1 else a - 1 := by
  have h1 : (a ^^^ 1) / 2 = a / 2 := by
    have := Nat.shiftRight_xor_distrib (a := a) (b := 1) (i := 1)
    simpa [Nat.shiftRight_eq_div_pow] using this
  have h2 : (a ^^^ 1) % 2 = (a % 2) ^^^ 1 := by
    have := Nat.xor_mod_two_pow (a := a) (b := 1) (n := 1)
    simpa using this
  rcases Nat.mod_two_eq_zero_or_one a with h | h
  · rw [if_pos h]
    rw [h] at h2
    have h3 : (a ^^^ 1) % 2 = 1 := by rw [h2]; rfl
    omega
  · rw [if_neg (by omega)]
    rw [h] at h2
    have h3 : (a ^^^ 1) % 2 = 0 := by rw [h2]; rfl
    omega
theorem xor_i64 {a b : Nat} (ha : a < 4294967296) (hb : b < 4294967296) : bits .xor .i64 (a : Int) (b : Int) = ((a ^^^ b : Nat) : Int) := by
  unfold bits
  dsimp only
  have hlt : a ^^^ b < 2 ^ 32 := Nat.xor_lt_two_pow (by omega) (by omega)
  have e1 : (BitVec.ofInt IntKind.i64.bits (a : Int) ^^^ BitVec.ofInt IntKind.i64.bits (b : Int)).toNat = a ^^^ b := by
    have hb8 : IntKind.i64.bits = 64 := rfl
    rw [hb8, BitVec.toNat_xor]
    simp only [BitVec.toNat_ofInt]
    have m1 : ((a : Int) % ((2 ^ 64 : Nat) : Int)).toNat = a := by omega
    have m2 : ((b : Int) % ((2 ^ 64 : Nat) : Int)).toNat = b := by omega
    rw [m1, m2]
  rw [e1, wrapI_in (by omega)]
def bsB (i : Nat) (ds : List Int) : List Int := dg (IntKind.u64.wrap (i : Int)) 4 ++ fieldB ds
def b3 (i : Nat) : Int := IntKind.u8.wrap (i : Int)
theorem dg4 (x : Int) : dg x 4 = [IntKind.u8.wrap (x / 2 ^ (8 * 3)), IntKind.u8.wrap (x / 2 ^ (8 * 2)), IntKind.u8.wrap (x / 2 ^ (8 * 1)), IntKind.u8.wrap (x / 2 ^ (8 * 0))] := rfl
theorem bsB_len (i : Nat) (ds : List Int) : (bsB i ds).length = 8 + ds.length + padN ds.length := by
  unfold bsB
  rw [List.length_append, dg_len, fieldB_len]
  omega
theorem bsB_get {i : Nat} (hi : i < 4294967296) (ds : List Int) : (bsB i ds)[3]? = some (b3 i) := by
  unfold bsB b3
  rw [u64_in (by omega), dg4]
  simp
def bsT (i : Nat) (ds : List Int) : List Int := (bsB i ds).set 3 (bits .xor .u8 (b3 i) 1)
theorem bsT_len (i : Nat) (ds : List Int) : (bsT i ds).length = 8 + ds.length + padN ds.length := by unfold bsT; rw [List.length_set, bsB_len]
theorem b3_byt (i : Nat) : 0 ≤ b3 i ∧ b3 i ≤ 255 := by unfold b3; rw [wrap8_eq]; omega
theorem b3_nat (i : Nat) : b3 i = ((i % 256 : Nat) : Int) := by unfold b3; rw [wrap8_eq]; omega
theorem b3_back (i : Nat) : bits .xor .u8 (bits .xor .u8 (b3 i) 1) 1 = b3 i := by
  have h0 : i % 256 < 2 ^ 8 := by omega
  have h2 : (i % 256) ^^^ 1 < 2 ^ 8 := Nat.xor_lt_two_pow h0 (by decide)
  have hin : bits .xor .u8 ((i % 256 : Nat) : Int) 1 = ((i % 256 ^^^ 1 : Nat) : Int) := xor_u8 (by omega) (by decide)
  have hout : bits .xor .u8 ((i % 256 ^^^ 1 : Nat) : Int) 1 = (((i % 256 ^^^ 1) ^^^ 1 : Nat) : Int) := xor_u8 (by omega) (by decide)
  rw [b3_nat, hin, hout, Nat.xor_assoc, Nat.xor_self, Nat.xor_zero]
theorem b3_flip (i : Nat) : bits .xor .u8 (b3 i) 1 = b3 i + (if i % 2 = 0 then 1 else -1) := by
  have h0 : i % 256 < 2 ^ 8 := by omega
  rw [b3_nat, xor_u8 (by omega) (by decide)]
  simp only [Int.toNat_natCast]
  rw [show (1 : Int).toNat = 1 by rfl, xor_one]
  by_cases h : i % 2 = 0
  · rw [if_pos (by omega), if_pos h]; omega
  · rw [if_neg (by omega), if_neg h]; omega
theorem bsB_byts {i : Nat} {ds : List Int} (h : Byts ds) : Byts (bsB i ds) := by
  have h1 : Byts (fieldB ds) := by
    have := itB_byts (t := ⟨5, 0, 0, ⟨none, 0, 0⟩⟩) h
    exact this
  intro x hx
  rcases List.mem_append.1 hx with hx | hx
  · exact dg_byts _ _ x hx
  · exact h1 x hx
theorem bsT_byts {i : Nat} {ds : List Int} (h : Byts ds) : Byts (bsT i ds) := by
  intro x hx
  rcases List.mem_or_eq_of_mem_set hx with hx | rfl
  · exact bsB_byts h x hx
  · exact xor_byt (b3_byt i) (by decide)
theorem bsB_drop (i : Nat) (ds : List Int) : (bsB i ds).drop 4 = fieldB ds := by
  unfold bsB
  rw [List.drop_append_of_le_length (by rw [dg_len]; decide), List.drop_of_length_le (by rw [dg_len]; decide), List.nil_append]
theorem bsT_drop (i : Nat) (ds : List Int) : (bsT i ds).drop 4 = fieldB ds := by
  unfold bsT
  rw [List.drop_set_of_lt (by decide), bsB_drop]
theorem body4 {bs ds : List Int} (hd : bs.drop 4 = fieldB ds) (hl : bs.length = 8 + ds.length + padN ds.length) (hs : ds.length ≤ 1048576) : BodyR bs 4 0 4294967296 = (ds, bs.length, 0) := by
  obtain ⟨n4, nb, hds, hp⟩ := body_at (rest := []) (by rw [hd, List.append_nil]) hs
  have hE : bodyE bs 4 4294967296 = 0 := by
    unfold bodyE
    rw [if_neg (by omega), if_neg (by omega), nb, if_neg (by omega), if_neg (by omega), if_pos hp]
  unfold BodyR
  rw [if_neg (by simp), if_pos hE, nb, hds]
  simp only [Prod.mk.injEq, true_and, and_true]
  omega
theorem bsB_take (i : Nat) (ds : List Int) : (bsB i ds).take 4 = dg (IntKind.u64.wrap (i : Int)) 4 := by
  unfold bsB
  rw [List.take_append_of_le_length (by rw [dg_len]; decide), List.take_of_length_le (by rw [dg_len]; decide)]
theorem u32B {i : Nat} (hi : i < 1048576) (ds : List Int) : U32R (bsB i ds) 0 0 4294967296 = ((i : Int), 4, 0) := by
  have hl := bsB_len i ds
  have hn : N4 (bsB i ds) 0 = (i : Int) := N4_of (by rw [List.drop_zero, bsB_take]) (by omega)
  unfold U32R
  rw [if_neg (by simp), if_neg (by omega), hn, if_pos (by omega)]
theorem u32T {i : Nat} (hi : i < 1048576) (ds : List Int) : U32R (bsT i ds) 0 0 4294967296 = (((i ^^^ 1 : Nat) : Int), 4, 0) := by
  have hl := bsT_len i ds
  have hv : IntKind.u64.wrap (i : Int) = (i : Int) := u64_in (by omega)
  have e1 : (bsT i ds).take 4 = (dg (i : Int) 4).set 3 (bits .xor .u8 (b3 i) 1) := by unfold bsT; rw [List.take_set, bsB_take, hv]
  have hb4 : Byts ((dg (i : Int) 4).set 3 (bits .xor .u8 (b3 i) 1)) := fun x hx => by
    rcases List.mem_or_eq_of_mem_set hx with hx | rfl
    · exact dg_byts _ _ x hx
    · exact xor_byt (b3_byt i) (by decide)
  have hn0 := numR_dg (i : Int) (m := 4) (by decide)
  rw [(numR_eq (dg_byts _ _) (by rw [dg_len]; decide)).1] at hn0
  have hn : numR ((dg (i : Int) 4).set 3 (bits .xor .u8 (b3 i) 1)) = ((i ^^^ 1 : Nat) : Int) := by
    rw [(numR_eq hb4 (by rw [List.length_set, dg_len]; decide)).1, b3_flip, xor_one]
    have h3 : IntKind.u8.wrap ((i : Int) / 2 ^ (8 * 0)) = b3 i := by unfold b3; simp
    rw [dg4, h3] at hn0 ⊢
    simp only [List.set_cons_succ, List.set_cons_zero, numP, List.foldl_cons, List.foldl_nil] at hn0 ⊢
    by_cases h : i % 2 = 0
    · rw [if_pos h, if_pos h]; omega
    · rw [if_neg h, if_neg h]; omega
  have hN : N4 (bsT i ds) 0 = ((i ^^^ 1 : Nat) : Int) := by
    have hx : i ^^^ 1 < 2 ^ 32 := Nat.xor_lt_two_pow (by omega) (by decide)
    unfold N4
    rw [List.drop_zero, e1, hn, wrapI_in (by omega)]
  have hx : i ^^^ 1 < 2 ^ 32 := Nat.xor_lt_two_pow (by omega) (by decide)
  unfold U32R
  rw [if_neg (by simp), if_neg (by omega), hN, if_pos (by omega)]
/-- The bytes of the k-th reader. -/
def dsOf (items : List (ItM × List Int)) (j : Nat) : List Int := ((items[j]?).map (·.2)).getD []
def bsF (items : List (ItM × List Int)) (k : Nat) : List Int := if k % 2 = 0 then bsB (k / 2) (dsOf items (k / 2)) else bsT (k / 2) (dsOf items (k / 2))
def roomB (items : List (ItM × List Int)) (j : Nat) : List Int := bsB j (dsOf items j) ++ [161, 162, 163]
section
variable (items : List (ItM × List Int)) (k : Nat)
theorem bsF_len : (bsF items k).length = 8 + (dsOf items (k / 2)).length + padN (dsOf items (k / 2)).length := by
  unfold bsF
  split
  · exact bsB_len _ _
  · exact bsT_len _ _
theorem bsF_byts (h : ∀ j, Byts (dsOf items j)) : Byts (bsF items k) := by
  unfold bsF
  split
  · exact bsB_byts (h _)
  · exact bsT_byts (h _)
theorem bsF_u32 (hk : k / 2 < 1048576) : U32R (bsF items k) 0 0 4294967296 = (bits .xor .i64 ((k : Int) / 2) ((k : Int) % 2), 4, 0) := by
  have e1 : (k : Int) / 2 = ((k / 2 : Nat) : Int) := by omega
  unfold bsF
  split
  · rename_i h
    rw [u32B hk, e1, show (k : Int) % 2 = ((0 : Nat) : Int) by omega, xor_i64 (by omega) (by decide), Nat.xor_zero]
  · rename_i h
    rw [u32T hk, e1, show (k : Int) % 2 = ((1 : Nat) : Int) by omega, xor_i64 (by omega) (by decide)]
theorem bsF_body (hs : (dsOf items (k / 2)).length ≤ 1048576) : BodyR (bsF items k) 4 0 4294967296 = (dsOf items (k / 2), (bsF items k).length, 0) := by
  refine body4 ?_ (bsF_len items k) hs
  unfold bsF
  split
  · exact bsB_drop _ _
  · exact bsT_drop _ _
theorem bsF_close : CloseR (bsF items k) (bsF items k).length 0 = 0 := if_neg (fun h => by omega)
theorem bsF_short : U32R (bsF items k) (bsF items k).length 0 9 = (0, (bsF items k).length, 11) := by
  unfold U32R
  rw [if_neg (by simp), if_pos (by omega)]
end
end Go.Proofs.YtjnnlfeohbidhaaDoor
