import Derived.Test.YtggohplddejniaaEngA
namespace Go.Proofs.Ytggohplddejniaa
open Go

/-! ### Alarms, without the program -/
/-- Keys: how they lie in memory, and which comes first. -/
structure KeyT (K : Type) where
  ko : KeyOf K
  lt : K → K → Bool
  zero : K
  irr : ∀ a, lt a a = false
  tr : ∀ a b c, lt a b = true → lt b c = true → lt a c = true
  tot : ∀ a b, a ≠ b → lt a b = true ∨ lt b a = true
  one : ∀ a, (ko.val a).oneCell' = true
variable {K : Type} (T : KeyT K)
structure Tim (K : Type) where
  k : K
  at_ : Int
def tz : Tim K := ⟨T.zero, 0⟩
def ahd (a b : Tim K) : Bool := decide (a.at_ < b.at_) || (decide (a.at_ = b.at_) && T.lt a.k b.k)
abbrev Pl (K : Type) := List (K × Value)
/-- What sift works on: the timers, the places, where the hole is. -/
structure HS (K : Type) where
  xs : List (Tim K)
  m : Pl K
  i : Nat
def HS.at (s : HS K) (j : Nat) : Tim K := s.xs.getD j (tz T)
/-- The timer at the place j comes into the hole; the hole goes there. -/
def HS.mv (s : HS K) (j : Nat) : HS K := ⟨s.xs.set s.i (s.at T j), mset T.ko s.m (s.at T j).k (.int .i64 (s.i : Int)), j⟩
def upR (t : Tim K) : Nat → HS K → HS K
  | 0, s => s
  | n + 1, s => if 0 < s.i ∧ ahd T t (s.at T ((s.i - 1) / 2)) = true then upR t n (s.mv T ((s.i - 1) / 2)) else s
/-- The child that comes first. -/
def HS.kid (s : HS K) : Nat := if 2 * s.i + 2 < s.xs.length ∧ ahd T (s.at T (2 * s.i + 2)) (s.at T (2 * s.i + 1)) = true then 2 * s.i + 2 else 2 * s.i + 1
def downR (t : Tim K) : Nat → HS K → HS K
  | 0, s => s
  | n + 1, s => if s.kid T < s.xs.length ∧ ahd T (s.at T (s.kid T)) t = true then downR t n (s.mv T (s.kid T)) else s
def HS.lay (s : HS K) (t : Tim K) : HS K := ⟨s.xs.set s.i t, mset T.ko s.m t.k (.int .i64 (s.i : Int)), s.i⟩
def siftR (s : HS K) : HS K := (downR T (s.at T s.i) s.xs.length (upR T (s.at T s.i) s.i s)).lay T (s.at T s.i)

theorem HS.at_get {s : HS K} {j : Nat} (h : j < s.xs.length) : s.xs[j]? = some (s.at T j) := by
  simp [HS.at, List.getD_eq_getElem?_getD, List.getElem?_eq_getElem h]
theorem upR_stop {t : Tim K} {s : HS K} (h : ¬ (0 < s.i ∧ ahd T t (s.at T ((s.i - 1) / 2)) = true)) : ∀ n, upR T t n s = s
  | 0 => rfl
  | n + 1 => by rw [upR, if_neg h]
theorem downR_stop {t : Tim K} {s : HS K} (h : ¬ (s.kid T < s.xs.length ∧ ahd T (s.at T (s.kid T)) t = true)) : ∀ n, downR T t n s = s
  | 0 => rfl
  | n + 1 => by rw [downR, if_neg h]
theorem HS.mv_len {s : HS K} {j : Nat} : (s.mv T j).xs.length = s.xs.length := by simp [HS.mv]
theorem upR_len (t : Tim K) : ∀ (n : Nat) (s : HS K), (upR T t n s).xs.length = s.xs.length
  | 0, s => rfl
  | n + 1, s => by rw [upR]; split <;> simp [upR_len t n, HS.mv_len]
theorem downR_len (t : Tim K) : ∀ (n : Nat) (s : HS K), (downR T t n s).xs.length = s.xs.length
  | 0, s => rfl
  | n + 1, s => by rw [downR]; split <;> simp [downR_len t n, HS.mv_len]
theorem siftR_len (s : HS K) : (siftR T s).xs.length = s.xs.length := by simp [siftR, HS.lay, downR_len, upR_len]

/-- What an alarm holds. -/
structure AS (K : Type) where
  xs : List (Tim K)
  m : Pl K
def AS.fin (s : HS K) : AS K := ⟨(siftR T s).xs, (siftR T s).m⟩
def AS.set (a : AS K) (k : K) (at_ : Int) : AS K := match mget T.ko a.m k with
  | some (.int _ i) => .fin T (HS.lay T ⟨a.xs, a.m, i.toNat⟩ ⟨k, at_⟩)
  | _ => .fin T (HS.lay T ⟨a.xs ++ [tz T], a.m, a.xs.length⟩ ⟨k, at_⟩)
def AS.cancel (a : AS K) (k : K) : AS K := match mget T.ko a.m k with
  | some (.int _ i) => if i.toNat < a.xs.length - 1 then .fin T (HS.lay T ⟨a.xs.take (a.xs.length - 1), mdel T.ko a.m k, i.toNat⟩ (a.xs.getD (a.xs.length - 1) (tz T))) else ⟨a.xs.take (a.xs.length - 1), mdel T.ko a.m k⟩
  | _ => a
def AS.has (a : AS K) (k : K) : Bool := (mget T.ko a.m k).isSome
def AS.when (a : AS K) (k : K) : Int := match mget T.ko a.m k with
  | some (.int _ i) => (a.xs.getD i.toNat (tz T)).at_
  | _ => 0
/-- The places tell of timers that are there. -/
def AS.WF (a : AS K) : Prop := ∀ k v, mget T.ko a.m k = some v → ∃ i : Nat, v = .int .i64 (i : Int) ∧ i < a.xs.length
theorem bl_irr : ∀ a : List UInt8, Op.bytesLess a a = false
  | [] => rfl
  | c :: a => by simp [Op.bytesLess, bl_irr a]
theorem bl_tr : ∀ a b c : List UInt8, Op.bytesLess a b = true → Op.bytesLess b c = true → Op.bytesLess a c = true
  | _, [], _, h, _ => by cases ‹List UInt8› <;> simp [Op.bytesLess] at h
  | _, _ :: _, [], _, h => by simp [Op.bytesLess] at h
  | [], _ :: _, _ :: _, _, _ => rfl
  | x :: a, y :: b, z :: c, h1, h2 => by
    simp only [Op.bytesLess, Bool.or_eq_true, Bool.and_eq_true, decide_eq_true_eq, beq_iff_eq] at h1 h2 ⊢
    rcases h1 with h1 | ⟨h1, h3⟩
    · rcases h2 with h2 | ⟨h2, h4⟩
      · exact .inl (UInt8.lt_trans h1 h2)
      · subst h2; exact .inl h1
    · subst h1
      rcases h2 with h2 | ⟨h2, h4⟩
      · exact .inl h2
      · exact .inr ⟨h2, bl_tr a b c h3 h4⟩
theorem bl_tot : ∀ a b : List UInt8, a ≠ b → Op.bytesLess a b = true ∨ Op.bytesLess b a = true
  | [], [], h => absurd rfl h
  | [], _ :: _, _ => .inl rfl
  | _ :: _, [], _ => .inr rfl
  | x :: a, y :: b, h => by
    simp only [Op.bytesLess, Bool.or_eq_true, Bool.and_eq_true, decide_eq_true_eq, beq_iff_eq]
    by_cases e : x = y
    · subst e
      rcases bl_tot a b (fun e => h (by rw [e])) with h1 | h1
      · exact .inl (.inr ⟨rfl, h1⟩)
      · exact .inr (.inr ⟨rfl, h1⟩)
    · rcases UInt8.lt_or_lt_of_ne e with h1 | h1
      · exact .inl (.inl h1)
      · exact .inr (.inl h1)
theorem toList_inj {a b : ByteArray} (h : a.toList = b.toList) : a = b := by
  rw [ByteArray.toList_eq, ByteArray.toList_eq] at h
  cases a; cases b
  congr 1
  exact Array.toList_inj.1 h
def intT : KeyT Int := ⟨intKey .i64, fun a b => decide (a < b), 0, fun a => by simp, fun a b c h1 h2 => by simp at *; omega, fun a b h => by simp; omega, fun _ => rfl⟩
def byteT : KeyT Int := ⟨intKey .u8, fun a b => decide (a < b), 0, fun a => by simp, fun a b c h1 h2 => by simp at *; omega, fun a b h => by simp; omega, fun _ => rfl⟩
def strT : KeyT ByteArray := ⟨strKey, fun a b => Op.bytesLess a.toList b.toList, ByteArray.empty, fun _ => bl_irr _, fun _ _ _ => bl_tr _ _ _, fun _ _ h => bl_tot _ _ (fun e => h (toList_inj e)), fun _ => rfl⟩
end Go.Proofs.Ytggohplddejniaa
