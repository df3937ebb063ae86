import Derived.Test.YtbelfaoolnijiaaProg
import Derived.WalkKit
import Derived.WalkSpells
import Derived.WalkLawsBesides
import Derived.KernelRfl
import Derived.Lib.Hide
import Derived.Laws.RangeAny
namespace Go.Proofs.Ytbelfaoolnijiaa.Nm
open Go.RowKit

/-- Neither '/' nor 0. -/
def fineB (c : UInt8) : Bool := c != 47 && c != 0
/-- What Check answers. -/
def checkV (s : ByteArray) : Int :=
  if s.size < 1 ∨ 23 < s.size ∨ s.toList = [46] ∨ s.toList = [46, 46] then 31 else if s.data.toList.all fineB then 0 else 31

theorem decode_span (s : ByteArray) (pos : Nat) (h : pos < s.size) (ha : 128 ≤ (s[pos]'h).toNat) : ∀ q, pos ≤ q → q < pos + (Utf8.decode s pos).2 → ∃ hq : q < s.size, 128 ≤ (s[q]'hq).toNat := by
  have at_ : ∀ k, pos + k < s.size → ∃ hq : pos + k < s.size, (s.get! (pos + k)).toNat = (s[pos + k]'hq).toNat := fun k hk => ⟨hk, by
    show (s.get! (pos + k)).toNat = _
    simp [ByteArray.get!, getElem!_pos, hk]; rfl⟩
  have cont : ∀ k, (decide (pos + k < s.size) && (s.get! (pos + k)).toNat / 64 == 2) = true → ∃ hq : pos + k < s.size, 128 ≤ (s[pos + k]'hq).toNat := fun k hk => by
    simp only [Bool.and_eq_true, decide_eq_true_eq, beq_iff_eq] at hk
    obtain ⟨hq, e⟩ := at_ k hk.1
    exact ⟨hq, by omega⟩
  have one : ∀ q, pos ≤ q → q < pos + 1 → ∃ hq : q < s.size, 128 ≤ (s[q]'hq).toNat := fun q h1 h2 => by
    obtain rfl : q = pos := by omega
    exact ⟨h, ha⟩
  have hn : ¬ (s.get! (pos + 0)).toNat < 128 := by
    obtain ⟨hq, e⟩ := at_ 0 (by omega)
    simp only [Nat.add_zero] at e ⊢
    omega
  unfold Utf8.decode
  simp only [hn, if_false]
  intro q h1 h2
  have parts : ∀ n, (∀ k, 1 ≤ k → k < n → ∃ hq : pos + k < s.size, 128 ≤ (s[pos + k]'hq).toNat) → q < pos + n → ∃ hq : q < s.size, 128 ≤ (s[q]'hq).toNat := fun n hk hq => by
    by_cases e : q = pos
    · subst e; exact ⟨h, ha⟩
    · obtain ⟨hz, hv⟩ := hk (q - pos) (by omega) (by omega)
      simp only [show pos + (q - pos) = q by omega] at hz hv
      exact ⟨hz, hv⟩
  split at h2
  · rename_i hc
    simp only [Bool.and_eq_true] at hc
    have c1 := cont 1 (by simpa using hc.2)
    split at h2
    · exact parts 2 (fun k a b => by have e : k = 1 := (by omega); subst e; exact c1) h2
    · exact one q h1 h2
  · split at h2
    · rename_i hc
      simp only [Bool.and_eq_true] at hc
      have c1 := cont 1 (by simpa using hc.1.2)
      have c2 := cont 2 (by simpa using hc.2)
      split at h2
      · refine parts 3 (fun k a b => ?_) h2
        have : k = 1 ∨ k = 2 := by omega
        rcases this with rfl | rfl
        · exact c1
        · exact c2
      · exact one q h1 h2
    · split at h2
      · rename_i hc
        simp only [Bool.and_eq_true] at hc
        have c1 := cont 1 (by simpa using hc.1.1.2)
        have c2 := cont 2 (by simpa using hc.1.2)
        have c3 := cont 3 (by simpa using hc.2)
        split at h2
        · refine parts 4 (fun k a b => ?_) h2
          have : k = 1 ∨ k = 2 ∨ k = 3 := by omega
          rcases this with rfl | rfl | rfl
          · exact c1
          · exact c2
          · exact c3
        · exact one q h1 h2
      · exact one q h1 h2

theorem width_pos (s : ByteArray) (pos : Nat) (h : pos < s.size) : 1 ≤ (Utf8.decode s pos).2 := by
  by_cases ha : (s[pos]'h).toNat < 128
  · rw [decode_ascii s pos h ha]
    exact Nat.le_refl _
  · exact (decode_high s pos h (by omega)).2
/-- All bytes ahead of pos are fine. -/
def Ahead (s : ByteArray) (pos : Nat) : Prop := ∀ q (hq : q < s.size), q < pos → fineB (s[q]'hq) = true
theorem ahead_next {s : ByteArray} {pos : Nat} (h : Ahead s pos) (hp : pos < s.size) (h1 : (Utf8.decode s pos).1 ≠ 47) (h2 : (Utf8.decode s pos).1 ≠ 0) : Ahead s (pos + (Utf8.decode s pos).2) := by
  intro q hq hlt
  by_cases hb : q < pos
  · exact h q hq hb
  · by_cases ha : (s[pos]'hp).toNat < 128
    · rw [decode_ascii s pos hp ha] at hlt h1 h2
      simp only at hlt h1 h2
      obtain rfl : q = pos := by omega
      simp only [fineB, Bool.and_eq_true, bne_iff_ne, ne_eq]
      exact ⟨fun e => h1 (by rw [e]; rfl), fun e => h2 (by rw [e]; rfl)⟩
    · obtain ⟨hz, hv⟩ := decode_span s pos hp (by omega) q (by omega) hlt
      simp only [fineB, Bool.and_eq_true, bne_iff_ne, ne_eq]
      exact ⟨fun e => by rw [e] at hv; revert hv; decide, fun e => by rw [e] at hv; revert hv; decide⟩
theorem bad_of {s : ByteArray} {pos : Nat} (hp : pos < s.size) (h : (Utf8.decode s pos).1 = 47 ∨ (Utf8.decode s pos).1 = 0) : fineB (s[pos]'hp) = false := by
  by_cases ha : (s[pos]'hp).toNat < 128
  · rw [decode_ascii s pos hp ha] at h
    simp only at h
    have : s[pos]'hp = 47 ∨ s[pos]'hp = 0 := by
      rcases h with h | h
      · left; exact UInt8.toNat_inj.1 (by rw [h]; rfl)
      · right; exact UInt8.toNat_inj.1 (by rw [h]; rfl)
    rcases this with e | e <;> rw [e] <;> rfl
  · have := (decode_high s pos hp (by omega)).1
    omega
theorem all_ahead {s : ByteArray} (h : Ahead s s.size) : s.data.toList.all fineB = true := by
  rw [List.all_eq_true]
  intro c hc
  obtain ⟨q, hq, rfl⟩ := List.getElem_of_mem hc
  simp only [Array.length_toList] at hq
  exact h q hq hq
theorem not_all {s : ByteArray} {pos : Nat} (hp : pos < s.size) (h : fineB (s[pos]'hp) = false) : s.data.toList.all fineB = false := by
  rw [List.all_eq_false]
  exact ⟨s[pos]'hp, by exact List.getElem_mem (l := s.data.toList) (by simpa using hp), by simp [h]⟩

theorem iter_below (w : World) (s : ByteArray) (pos : Nat) : Below w.heap.size w (w.iter s pos) := (Below.refl _ _).alloc (Nat.le_refl _) _

def loopV (s : ByteArray) : Int := if s.data.toList.all fineB then 0 else 31
theorem ret_int {k : IntKind} {a b : Int} (h : a = b) : Ending.returned (.int k a) = .returned (.int k b) := by rw [h]
set_option maxRecDepth 1000000 in
theorem check_loop (s : ByteArray) (w : World) (h1 : ¬ s.size < 1) (h2 : ¬ 23 < s.size) (h3 : (s.toList == [46]) = false) (h4 : (s.toList == [46, 46]) = false) :
    Calls Try.prog 13 #[.string s] w fun e w' => e = .returned (.int .i64 (loopV s)) ∧ Below w.heap.size w w' := by
  have d1 : decide ((s.size : Int) < 1) = false := by simp; omega
  have d2 : decide ((23 : Int) < (s.size : Int)) = false := by simp; omega
  go_enter Try.func13, Try.ntmps13
  go_wp2
  go_loopw [4] (fun _ w' => ∃ pos : Nat, w' = w.iter s pos ∧ pos ≤ pos ∧ Ahead s pos) (fun _ w' => s.size - w'.iterPos w.heap.size)
  case atStart => exact ⟨0, rfl, Nat.le_refl _, fun q _ h => by omega⟩
  case round =>
    obtain ⟨pos, rfl, -, hA⟩ := hrel
    have HA := Lib.hid hA
    clear hA
    by_cases hp : pos < s.size
    · have hnx : ∀ ty, (Instr.next (.pointer (some ⟨w.heap.size, 0, none⟩)) true ty).run Try.prog (w.iter s pos) = _ := fun ty => run_next_any w s pos ty hp
      have hwd := width_pos s pos hp
      by_cases hb : (Utf8.decode s pos).1 = 47 ∨ (Utf8.decode s pos).1 = 0
      · have hf := not_all hp (bad_of hp hb)
        have HF := Lib.hid hf
        clear hf
        by_cases e47 : (Utf8.decode s pos).1 = 47
        · have e : ((((Utf8.decode s pos).1 : Nat) : Int) == 47) = true := by simp [e47]
          clear e47 hb
          go_wp2
          go_ret
          exact ⟨ret_int (by unfold loopV; rw [HF.out]; rfl), iter_below _ _ _⟩
        · have e : ((((Utf8.decode s pos).1 : Nat) : Int) == 47) = false := by simp; omega
          have e0 : ((((Utf8.decode s pos).1 : Nat) : Int) == 0) = true := by simp; omega
          clear e47 hb
          go_wp2
          go_ret
          exact ⟨ret_int (by unfold loopV; rw [HF.out]; rfl), iter_below _ _ _⟩
      · have e : ((((Utf8.decode s pos).1 : Nat) : Int) == 47) = false := by simp; omega
        have e0 : ((((Utf8.decode s pos).1 : Nat) : Int) == 0) = false := by simp; omega
        have hn := ahead_next HA.out hp (fun h => hb (.inl h)) (fun h => hb (.inr h))
        have HN := Lib.hid hn
        clear hb hn
        go_wp2
        go_roundw
        case rel => exact ⟨_, rfl, Nat.le_refl _, HN.out⟩
        case measure => simp; omega
    · have hnx : ∀ ty, (Instr.next (.pointer (some ⟨w.heap.size, 0, none⟩)) true ty).run Try.prog (w.iter s pos) = _ := fun ty => run_next_end w s pos ty hp
      have hf := all_ahead (s := s) (fun q hq _ => HA.out q hq (by omega))
      have HF := Lib.hid hf
      clear hf
      go_wp2
      go_ret
      exact ⟨ret_int (by unfold loopV; rw [HF.out]; rfl), iter_below _ _ _⟩

theorem check_short (s : ByteArray) (w : World) (h : s.size < 1 ∨ 23 < s.size ∨ s.toList = [46] ∨ s.toList = [46, 46]) :
    Calls Try.prog 13 #[.string s] w fun e w' => e = .returned (.int .i64 31) ∧ Below w.heap.size w w' := by
  by_cases h1 : s.size < 1
  · have d1 : decide ((s.size : Int) < 1) = true := by simp; omega
    clear h
    go_enter Try.func13, Try.ntmps13
    go_wp2
    go_ret
    exact ⟨rfl, Below.refl _ _⟩
  · have d1 : decide ((s.size : Int) < 1) = false := by simp; omega
    by_cases h2 : 23 < s.size
    · have d2 : decide ((23 : Int) < (s.size : Int)) = true := by simp; omega
      clear h h1
      go_enter Try.func13, Try.ntmps13
      go_wp2
      go_ret
      exact ⟨rfl, Below.refl _ _⟩
    · have d2 : decide ((23 : Int) < (s.size : Int)) = false := by simp; omega
      by_cases h3 : s.toList = [46]
      · have d3 : (s.toList == [46]) = true := by simpa using h3
        clear h h1 h2 h3
        go_enter Try.func13, Try.ntmps13
        go_wp2
        go_ret
        exact ⟨rfl, Below.refl _ _⟩
      · have d3 : (s.toList == [46]) = false := by simpa using h3
        have d4 : (s.toList == [46, 46]) = true := by
          rcases h with h | h | h | h
          · exact absurd h h1
          · exact absurd h h2
          · exact absurd h h3
          · simpa using h
        clear h h1 h2 h3
        go_enter Try.func13, Try.ntmps13
        go_wp2
        go_ret
        exact ⟨rfl, Below.refl _ _⟩

def names_Check.f (s : ByteArray) : Option Int := some (checkV s)
theorem names_Check.calls (s : ByteArray) (r : Int) (w : World) (h : names_Check.f s = some r) : Calls Try.prog 13 #[.string s] w fun e w' => e = .returned (.int .i64 r) ∧ Below w.heap.size w w' := by
  obtain rfl := Option.some.inj h
  unfold checkV
  split
  · rename_i h; exact check_short s w h
  · rename_i h
    exact check_loop s w (fun a => h (.inl a)) (fun a => h (.inr (.inl a))) (by simp; exact fun a => h (.inr (.inr (.inl a)))) (by simp; exact fun a => h (.inr (.inr (.inr a))))
end Go.Proofs.Ytbelfaoolnijiaa.Nm
