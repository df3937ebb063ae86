import Derived.RangeFuncBox
import Derived.Shelf.RegionOpen
import Derived.WalkKit
import Derived.RowKit3
import Derived.Test.YtfolhmlldoepfaaGreatDoorProg
import Derived.WalkSpells
import Derived.WalkLawsBesides
import Derived.KernelRfl
import Derived.Lib.Hide
import Derived.Laws.RangeAny
import Derived.Shelf.Small.Strs
import Derived.RangeFuncNested
import Derived.RangeFuncBound
import Derived.RangeFuncCalls
import Derived.RangeFuncLeaves
import Derived.Shelf.Abstract
import Derived.OwnWalkIn
import Derived.TacticsInMore
import Derived.LoopNIn
import Derived.LoopIn
import Derived.BigQuiet
import Derived.Deep.QuietTactic
import Derived.Maps.AppendAt
import Derived.Test.YtfolhmlldoepfaaGreatDoorGc
import Derived.Test.YtfolhmlldoepfaaGreatDoorGt
set_option linter.unusedVariables false
set_option linter.unusedSimpArgs false
namespace Go.Proofs.YtfolhmlldoepfaaGreatDoor.Nm
open Go Go.Proofs Go.RowKit
section
variable {w w1 : World} {g : Nat} {t : TypeId} {cs : Array Value}
theorem blk_cell (h : w.heap[g]? = some (.cells cs t (0, 0))) (i : Nat) : w.cell? ⟨g, i, none⟩ = cs[i]? := by
  simp [World.cell?, h]
theorem blk_frozen (h : w.heap[g]? = some (.cells cs t (0, 0))) (i : Nat) : w.frozen? ⟨g, i, none⟩ = false := by
  simp [World.frozen?, h]
theorem blk_set {b : Nat} {fz : Nat × Nat} (h : w.heap[b]? = some (.cells cs t fz)) (i : Nat) (v : Value) : (w.setCell ⟨b, i, none⟩ v).heap[b]? = some (.cells (cs.setIfInBounds i v) t fz) := by
  simp [World.setCell, Array.getElem?_modify, h]
theorem blk_drew {o : Obj} (h : w.heap[g]? = some o) : w.drew.heap[g]? = some o := h
variable {b b' : Nat} {e : TypeId} {sz n : Nat} {v : Value} {xs : List Value}
theorem own_base (h : w.ownsRow b e sz v n xs) (k : Nat) (hk : v.ownBlock = some k) : b ≤ k := by
  obtain ⟨_, (⟨rfl, _⟩ | ⟨g, cap, cur, rfl, hb, _⟩)⟩ := h
  · cases hk
  · cases hk
    exact hb
theorem own_lt (h : w.ownsRow b e sz v n xs) (k : Nat) (hk : v.ownBlock = some k) : k < w.heap.size := by
  obtain ⟨_, (⟨rfl, _⟩ | ⟨g, cap, cur, rfl, _, hc, _⟩)⟩ := h
  · cases hk
  · cases hk
    exact (Array.getElem?_eq_some_iff.1 hc).1
theorem own_weaken (h : w.ownsRow b e sz v n xs) (hb : b' ≤ b) : w.ownsRow b' e sz v n xs := by
  obtain ⟨h0, (h1 | ⟨g, cap, cur, h1, h2, h3⟩)⟩ := h
  · exact ⟨h0, .inl h1⟩
  · exact ⟨h0, .inr ⟨g, cap, cur, h1, Nat.le_trans hb h2, h3⟩⟩
theorem own_move (h : w.ownsRow b e sz v n xs) (hm : ∀ k, v.ownBlock = some k → w1.heap[k]? = w.heap[k]?) : w1.ownsRow b e sz v n xs := by
  obtain ⟨h0, (h1 | ⟨g, cap, cur, rfl, h2, h3, h4⟩)⟩ := h
  · exact ⟨h0, .inl h1⟩
  · exact ⟨h0, .inr ⟨g, cap, cur, rfl, h2, (hm g rfl).trans h3, h4⟩⟩
end
end Go.Proofs.YtfolhmlldoepfaaGreatDoor.Nm
namespace Go.Proofs.YtfolhmlldoepfaaGreatDoor.Nm
open Go.RowKit
/-- Neither '/' nor 0. -/
def fineB (c : UInt8) : Bool := c != 47 && c != 0
/-- What Check answers. -/
def checkV (s : ByteArray) : Int :=
  if s.size < 1 ∨ 23 < s.size ∨ s.toList = [46] ∨ s.toList = [46, 46] then 31 else if s.data.toList.all fineB then 0 else 31
theorem decode_span (s : ByteArray) (pos : Nat) (h : pos < s.size) (ha : 128 ≤ (s[pos]'h).toNat) : ∀ q, pos ≤ q → q < pos + (Utf8.decode s pos).2 → ∃ hq : q < s.size, 128 ≤ (s[q]'hq).toNat := by
  have at_ : ∀ k, pos + k < s.size → ∃ hq : pos + k < s.size, (s.get! (pos + k)).toNat = (s[pos + k]'hq).toNat := fun k hk => ⟨hk, by
    show (s.get! (pos + k)).toNat = _
    simp [ByteArray.get!, getElem!_pos, hk]; rfl⟩
  have cont : ∀ k, (decide (pos + k < s.size) && (s.get! (pos + k)).toNat / 64 == 2) = true → ∃ hq : pos + k < s.size, 128 ≤ (s[pos + k]'hq).toNat := fun k hk => by
    simp only [Bool.and_eq_true, decide_eq_true_eq, beq_iff_eq] at hk
    obtain ⟨hq, e⟩ := at_ k hk.1
    exact ⟨hq, by omega⟩
  have one : ∀ q, pos ≤ q → q < pos + 1 → ∃ hq : q < s.size, 128 ≤ (s[q]'hq).toNat := fun q h1 h2 => by
    obtain rfl : q = pos := by omega
    exact ⟨h, ha⟩
  have hn : ¬ (s.get! (pos + 0)).toNat < 128 := by
    obtain ⟨hq, e⟩ := at_ 0 (by omega)
    simp only [Nat.add_zero] at e ⊢
    omega
  unfold Utf8.decode
  simp only [hn, if_false]
  intro q h1 h2
  have parts : ∀ n, (∀ k, 1 ≤ k → k < n → ∃ hq : pos + k < s.size, 128 ≤ (s[pos + k]'hq).toNat) → q < pos + n → ∃ hq : q < s.size, 128 ≤ (s[q]'hq).toNat := fun n hk hq => by
    by_cases e : q = pos
    · subst e; exact ⟨h, ha⟩
    · obtain ⟨hz, hv⟩ := hk (q - pos) (by omega) (by omega)
      simp only [show pos + (q - pos) = q by omega] at hz hv
      exact ⟨hz, hv⟩
  split at h2
  · rename_i hc
    simp only [Bool.and_eq_true] at hc
    have c1 := cont 1 (by simpa using hc.2)
    split at h2
    · exact parts 2 (fun k a b => by have e : k = 1 := (by omega); subst e; exact c1) h2
    · exact one q h1 h2
  · split at h2
    · rename_i hc
      simp only [Bool.and_eq_true] at hc
      have c1 := cont 1 (by simpa using hc.1.2)
      have c2 := cont 2 (by simpa using hc.2)
      split at h2
      · refine parts 3 (fun k a b => ?_) h2
        have : k = 1 ∨ k = 2 := by omega
        rcases this with rfl | rfl
        · exact c1
        · exact c2
      · exact one q h1 h2
    · split at h2
      · rename_i hc
        simp only [Bool.and_eq_true] at hc
        have c1 := cont 1 (by simpa using hc.1.1.2)
        have c2 := cont 2 (by simpa using hc.1.2)
        have c3 := cont 3 (by simpa using hc.2)
        split at h2
        · refine parts 4 (fun k a b => ?_) h2
          have : k = 1 ∨ k = 2 ∨ k = 3 := by omega
          rcases this with rfl | rfl | rfl
          · exact c1
          · exact c2
          · exact c3
        · exact one q h1 h2
      · exact one q h1 h2
theorem width_pos (s : ByteArray) (pos : Nat) (h : pos < s.size) : 1 ≤ (Utf8.decode s pos).2 := by
  by_cases ha : (s[pos]'h).toNat < 128
  · rw [decode_ascii s pos h ha]
    exact Nat.le_refl _
  · exact (decode_high s pos h (by omega)).2
/-- All bytes ahead of pos are fine. -/
def Ahead (s : ByteArray) (pos : Nat) : Prop := ∀ q (hq : q < s.size), q < pos → fineB (s[q]'hq) = true
theorem ahead_next {s : ByteArray} {pos : Nat} (h : Ahead s pos) (hp : pos < s.size) (h1 : (Utf8.decode s pos).1 ≠ 47) (h2 : (Utf8.decode s pos).1 ≠ 0) : Ahead s (pos + (Utf8.decode s pos).2) := by
  intro q hq hlt
  by_cases hb : q < pos
  · exact h q hq hb
  · by_cases ha : (s[pos]'hp).toNat < 128
    · rw [decode_ascii s pos hp ha] at hlt h1 h2
      simp only at hlt h1 h2
      obtain rfl : q = pos := by omega
      simp only [fineB, Bool.and_eq_true, bne_iff_ne, ne_eq]
      exact ⟨fun e => h1 (by rw [e]; rfl), fun e => h2 (by rw [e]; rfl)⟩
    · obtain ⟨hz, hv⟩ := decode_span s pos hp (by omega) q (by omega) hlt
      simp only [fineB, Bool.and_eq_true, bne_iff_ne, ne_eq]
      exact ⟨fun e => by rw [e] at hv; revert hv; decide, fun e => by rw [e] at hv; revert hv; decide⟩
theorem bad_of {s : ByteArray} {pos : Nat} (hp : pos < s.size) (h : (Utf8.decode s pos).1 = 47 ∨ (Utf8.decode s pos).1 = 0) : fineB (s[pos]'hp) = false := by
  by_cases ha : (s[pos]'hp).toNat < 128
  · rw [decode_ascii s pos hp ha] at h
    simp only at h
    have : s[pos]'hp = 47 ∨ s[pos]'hp = 0 := by
      rcases h with h | h
      · left; exact UInt8.toNat_inj.1 (by rw [h]; rfl)
      · right; exact UInt8.toNat_inj.1 (by rw [h]; rfl)
    rcases this with e | e <;> rw [e] <;> rfl
  · have := (decode_high s pos hp (by omega)).1
    omega
theorem all_ahead {s : ByteArray} (h : Ahead s s.size) : s.data.toList.all fineB = true := by
  rw [List.all_eq_true]
  intro c hc
  obtain ⟨q, hq, rfl⟩ := List.getElem_of_mem hc
  simp only [Array.length_toList] at hq
  exact h q hq hq
theorem not_all {s : ByteArray} {pos : Nat} (hp : pos < s.size) (h : fineB (s[pos]'hp) = false) : s.data.toList.all fineB = false := by
  rw [List.all_eq_false]
  exact ⟨s[pos]'hp, by exact List.getElem_mem (l := s.data.toList) (by simpa using hp), by simp [h]⟩
theorem iter_below (w : World) (s : ByteArray) (pos : Nat) : Below w.heap.size w (w.iter s pos) := (Below.refl _ _).alloc (Nat.le_refl _) _
def loopV (s : ByteArray) : Int := if s.data.toList.all fineB then 0 else 31
theorem ret_int {k : IntKind} {a b : Int} (h : a = b) : Ending.returned (.int k a) = .returned (.int k b) := by rw [h]
set_option maxRecDepth 1000000 in
theorem check_loop (s : ByteArray) (w : World) (h1 : ¬ s.size < 1) (h2 : ¬ 23 < s.size) (h3 : (s.toList == [46]) = false) (h4 : (s.toList == [46, 46]) = false) :
    Calls Tryz.prog 124 #[.string s] w fun e w' => e = .returned (.int .i64 (loopV s)) ∧ Below w.heap.size w w' := by
  have d1 : decide ((s.size : Int) < 1) = false := by simp; omega
  have d2 : decide ((23 : Int) < (s.size : Int)) = false := by simp; omega
  go_enter Tryz.func124, Tryz.ntmps124
  go_wp2
  go_loopw [4] (fun _ w' => ∃ pos : Nat, w' = w.iter s pos ∧ pos ≤ pos ∧ Ahead s pos) (fun _ w' => s.size - w'.iterPos w.heap.size)
  case atStart => exact ⟨0, rfl, Nat.le_refl _, fun q _ h => by omega⟩
  case round =>
    obtain ⟨pos, rfl, -, hA⟩ := hrel
    have HA := Lib.hid hA
    clear hA
    by_cases hp : pos < s.size
    · have hnx : ∀ ty, (Instr.next (.pointer (some ⟨w.heap.size, 0, none⟩)) true ty).run Tryz.prog (w.iter s pos) = _ := fun ty => run_next_any w s pos ty hp
      have hwd := width_pos s pos hp
      by_cases hb : (Utf8.decode s pos).1 = 47 ∨ (Utf8.decode s pos).1 = 0
      · have hf := not_all hp (bad_of hp hb)
        have HF := Lib.hid hf
        clear hf
        by_cases e47 : (Utf8.decode s pos).1 = 47
        · have e : ((((Utf8.decode s pos).1 : Nat) : Int) == 47) = true := by simp [e47]
          clear e47 hb
          go_wp2
          go_ret
          exact ⟨ret_int (by unfold loopV; rw [HF.out]; rfl), iter_below _ _ _⟩
        · have e : ((((Utf8.decode s pos).1 : Nat) : Int) == 47) = false := by simp; omega
          have e0 : ((((Utf8.decode s pos).1 : Nat) : Int) == 0) = true := by simp; omega
          clear e47 hb
          go_wp2
          go_ret
          exact ⟨ret_int (by unfold loopV; rw [HF.out]; rfl), iter_below _ _ _⟩
      · have e : ((((Utf8.decode s pos).1 : Nat) : Int) == 47) = false := by simp; omega
        have e0 : ((((Utf8.decode s pos).1 : Nat) : Int) == 0) = false := by simp; omega
        have hn := ahead_next HA.out hp (fun h => hb (.inl h)) (fun h => hb (.inr h))
        have HN := Lib.hid hn
        clear hb hn
        go_wp2
        go_roundw
        case rel => exact ⟨_, rfl, Nat.le_refl _, HN.out⟩
        case measure => simp; omega
    · have hnx : ∀ ty, (Instr.next (.pointer (some ⟨w.heap.size, 0, none⟩)) true ty).run Tryz.prog (w.iter s pos) = _ := fun ty => run_next_end w s pos ty hp
      have hf := all_ahead (s := s) (fun q hq _ => HA.out q hq (by omega))
      have HF := Lib.hid hf
      clear hf
      go_wp2
      go_ret
      exact ⟨ret_int (by unfold loopV; rw [HF.out]; rfl), iter_below _ _ _⟩
theorem check_short (s : ByteArray) (w : World) (h : s.size < 1 ∨ 23 < s.size ∨ s.toList = [46] ∨ s.toList = [46, 46]) :
    Calls Tryz.prog 124 #[.string s] w fun e w' => e = .returned (.int .i64 31) ∧ Below w.heap.size w w' := by
  by_cases h1 : s.size < 1
  · have d1 : decide ((s.size : Int) < 1) = true := by simp; omega
    clear h
    go_enter Tryz.func124, Tryz.ntmps124
    go_wp2
    go_ret
    exact ⟨rfl, Below.refl _ _⟩
  · have d1 : decide ((s.size : Int) < 1) = false := by simp; omega
    by_cases h2 : 23 < s.size
    · have d2 : decide ((23 : Int) < (s.size : Int)) = true := by simp; omega
      clear h h1
      go_enter Tryz.func124, Tryz.ntmps124
      go_wp2
      go_ret
      exact ⟨rfl, Below.refl _ _⟩
    · have d2 : decide ((23 : Int) < (s.size : Int)) = false := by simp; omega
      by_cases h3 : s.toList = [46]
      · have d3 : (s.toList == [46]) = true := by simpa using h3
        clear h h1 h2 h3
        go_enter Tryz.func124, Tryz.ntmps124
        go_wp2
        go_ret
        exact ⟨rfl, Below.refl _ _⟩
      · have d3 : (s.toList == [46]) = false := by simpa using h3
        have d4 : (s.toList == [46, 46]) = true := by
          rcases h with h | h | h | h
          · exact absurd h h1
          · exact absurd h h2
          · exact absurd h h3
          · simpa using h
        clear h h1 h2 h3
        go_enter Tryz.func124, Tryz.ntmps124
        go_wp2
        go_ret
        exact ⟨rfl, Below.refl _ _⟩
def names_Check.f (s : ByteArray) : Option Int := some (checkV s)
theorem names_Check.calls (s : ByteArray) (r : Int) (w : World) (h : names_Check.f s = some r) : Calls Tryz.prog 124 #[.string s] w fun e w' => e = .returned (.int .i64 r) ∧ Below w.heap.size w w' := by
  obtain rfl := Option.some.inj h
  unfold checkV
  split
  · rename_i h; exact check_short s w h
  · rename_i h
    exact check_loop s w (fun a => h (.inl a)) (fun a => h (.inr (.inl a))) (by simp; exact fun a => h (.inr (.inr (.inl a)))) (by simp; exact fun a => h (.inr (.inr (.inr a))))
end Go.Proofs.YtfolhmlldoepfaaGreatDoor.Nm
namespace Go.Proofs
open Go.Shelf
def Tryz.lays137_ren : Go.Shelf.Ren := ⟨fun | 137 => 146 | 217 => 149 | 266 => 150 | n => n, fun | 9 => 9 | 5 => 5 | 3 => 3 | n => n, fun | n => n⟩
theorem Tryz.lays137 : Go.Proofs.Lays.n137 Tryz.prog Tryz.lays137_ren := {
  mixed := by kernel_rfl
  f137 := Tryz.func146.trans (congrArg some (by kernel_rfl))
  f217 := Tryz.func149.trans (congrArg some (by kernel_rfl))
  f266 := Tryz.func150.trans (congrArg some (by kernel_rfl))
  t3 := Tryz.underlying3
  a3 := Tryz.isAgg3
  z3 := Tryz.sizeOf3
  v3 := Tryz.zeroValue3
  t5 := Tryz.underlying5
  a5 := Tryz.isAgg5
  z5 := Tryz.sizeOf5
  v5 := Tryz.zeroValue5
  t9 := Tryz.underlying9
  a9 := Tryz.isAgg9
  z9 := Tryz.sizeOf9
  v9 := Tryz.zeroValue9 }
open Go.RowKit in
/-- strings.IndexByte: "IndexByte returns the index of the first instance of c in s, or -1 if c is not present in s.": IT RETURNS 'Lib.indexByte s c'; the world is as it was. (LAID: no walk: one application.) -/
theorem Tryz.strings_IndexByte (s : ByteArray) (c : Int) (w : World) :
    Calls Tryz.prog 146 #[.string s, .int .u8 c] w fun e w' => e = .returned (.int .i64 (Lib.indexByte s.data.toList c.toNat.toUInt8)) ∧ w' = w := Any.strings_IndexByte Tryz.lays137 s c w
end Go.Proofs
namespace Go.Proofs.YtfolhmlldoepfaaGreatDoor.Nm
open Go.RowKit Go.Shelf
/-- What the round of a loop over an iterator leaves: where it goes on, three blocks stand as they stood. -/
def roundLeft (l D Bp : Nat) (I : World → Prop) (Ix : World → Prop) (W : World) : Exit → Act → World → Prop
  | .normal, _, W' => W'.heap[l]? = W.heap[l]? ∧ W'.heap[D]? = W.heap[D]? ∧ W'.heap[Bp]? = W.heap[Bp]? ∧ I W'
  | .ret, _, W' => W'.heap[l]? = W.heap[l]? ∧ W'.heap[D]? = W.heap[D]? ∧ Ix W'
  | _, _, _ => False
/-- A world that differs from another at blocks of S alone (and has more). -/
def But (W W' : World) (S : Nat → Prop) : Prop := W'.os = W.os ∧ W'.tape = W.tape ∧ W'.output = W.output ∧ W.heap.size ≤ W'.heap.size ∧ ∀ k, k < W.heap.size → ¬ S k → W'.heap[k]? = W.heap[k]?
theorem but_put (W : World) (l : Nat) (o : Obj) : But W (W.putObj l o) (fun k => k = l) := ⟨rfl, rfl, rfl, by simp [World.putObj], fun k _ hk => World.putObj_heap_other (fun e => hk e)⟩
theorem But.refl (W : World) (S : Nat → Prop) : But W W S := ⟨rfl, rfl, rfl, Nat.le_refl _, fun _ _ _ => rfl⟩
theorem But.mono {W W' : World} {S S' : Nat → Prop} (h : But W W' S) (hs : ∀ k, S k → S' k) : But W W' S' := ⟨h.1, h.2.1, h.2.2.1, h.2.2.2.1, fun k hk hn => h.2.2.2.2 k hk (fun e => hn (hs k e))⟩
theorem But.alloc (W : World) (o : Obj) (S : Nat → Prop) : But W (W.alloc o) S := ⟨rfl, rfl, rfl, by simp, fun k hk _ => Below.heap_alloc _ _ _ hk⟩
theorem But.setCell (W : World) (p : Addr) (v : Value) : But W (W.setCell p v) (fun k => k = p.block) := ⟨rfl, rfl, rfl, by simp [World.setCell], fun k _ hn => Below.heap_setCell _ _ _ _ hn⟩
theorem But.trans {A B C : World} {S : Nat → Prop} (h : But A B S) (k : But B C S) : But A C S :=
  ⟨k.1.trans h.1, k.2.1.trans h.2.1, k.2.2.1.trans h.2.2.1, Nat.le_trans h.2.2.2.1 k.2.2.2.1, fun i hi hn => (k.2.2.2.2 i (Nat.lt_of_lt_of_le hi h.2.2.2.1) hn).trans (h.2.2.2.2 i hi hn)⟩
theorem But.below {A B : World} {S : Nat → Prop} {n : Nat} {w : World} (h : But A B S) (hb : Below n w A) (hn : n ≤ A.heap.size) (hS : ∀ k, S k → n ≤ k) : Below n w B :=
  hb.trans ⟨h.1, h.2.1, h.2.2.1, h.2.2.2.1, fun k hk => h.2.2.2.2 k (by omega) (fun e => by have := hS k e; omega)⟩
/-- The statement 'for x := range g { .. }', g a closure that keeps where it is in a variable of its own (block Bp). -/
theorem range_own {n : Nat} {g : Operand} {pt : Nat} {assign body : Code} {Q : Exit → Act → World → Prop} {a : Act} {w : World} {gf : Nat} {lb : Array Value}
    (hg : a.eval g = .func (.func gf) #[] lb) (eg : ∀ args w, (callFunc gf args).run Tryz.prog w = .ok (.enter gf args) w)
    (Bp : Nat) (hBp : Bp < w.heap.size) (I : List ByteArray → World → Prop) (Ix : World → Prop) (fin ok : List ByteArray → Prop)
    (hI : ∀ pre W W', I pre W → But W W' (fun k => k = Bp ∨ k = w.heap.size ∨ k = w.heap.size + 1) → I pre W')
    (hIx : ∀ W W', Ix W → But W W' (fun k => k = Bp ∨ k = w.heap.size ∨ k = w.heap.size + 1) → Ix W') (h0 : I [] w)
    (hit : ∀ (J : List ByteArray → World → Prop) (Jx : World → Prop) (W : World), (∀ pre W W', J pre W → But W W' (fun k => k = Bp) → J pre W') → (∀ pre W, J pre W → Bp < W.heap.size) →
      (∀ pre x W, ok (pre ++ [x]) → J pre W → YieldAt Fence.wide (n - 1 - 1) Tryz.prog (w.heap.size + 1) #[.string x] W fun e W' => (e = .returned (.bool true) ∧ J (pre ++ [x]) W' ∧ W'.heap[Bp]? = W.heap[Bp]?) ∨ (e = .returned (.bool false) ∧ Jx W')) →
      J [] W → W.heap[Bp]? = w.heap[Bp]? →
      CallsIn Fence.wide (n - 1) Tryz.prog gf (#[.func (.yield (w.heap.size + 1)) #[] #[]] ++ lb) W fun e W' => (∃ v, e = .returned v) ∧ ((∃ xs, fin xs ∧ J xs W') ∨ Jx W'))
    (a₁ : ByteArray → Act)
    (hassign : ∀ (l : Nat) (x : ByteArray) (W : World) (K : Act → World → Prop), K (a₁ x) W →
      assign.wpIn (Fence.wide.inRound l) (n - 1 - 1) Tryz.prog (Exit.then K (fun _ _ _ => False)) { tmps := (#[pt].zip #[Value.string x]).foldl (fun t (p, v) => t.setIfInBounds p v) a.tmps, defers := [] } W)
    (hbody : ∀ (pre : List ByteArray) (x : ByteArray) (W : World), ok (pre ++ [x]) → I pre W → w.heap.size + 1 < W.heap.size → body.wpIn (Fence.wide.inRound (w.heap.size + 1)) (n - 1 - 1) Tryz.prog (roundLeft (w.heap.size + 1) w.heap.size Bp (I (pre ++ [x])) Ix W) (a₁ x) W)
    (hdone : ∀ (xs : List ByteArray) (W : World), fin xs → I xs W → W.heap[w.heap.size]? = some (.deferred (some [])) → Q .normal { a with defers := { target := .collected w.heap.size, args := #[] } :: a.defers } W)
    (hstop : ∀ (W : World), Ix W → W.heap[w.heap.size]? = some (.deferred (some [])) → Code.ret.wpIn Fence.wide n Tryz.prog Q { a with defers := { target := .collected w.heap.size, args := #[] } :: a.defers } W) :
    (Code.rangeFunc g #[pt] assign body).wpIn Fence.wide n Tryz.prog Q a w := by
  refine wpIn_rangeFunc (fun fn hfn => ?_)
  obtain ⟨rec, hrec⟩ : ∃ rec : LoopState → Option Code → Loop, rec = fun st pe => { state := st, pending := pe, fn, tmps := a.tmps, params := #[pt], assign, body, defers := w.heap.size } := ⟨_, rfl⟩
  obtain ⟨W1, hW1⟩ : ∃ W1, (w.alloc (.deferred (some []))).alloc (.loop (rec .ready none)) = W1 := ⟨_, rfl⟩
  have hL1 : W1.heap[w.heap.size + 1]? = some (.loop (rec .ready none)) := by
    rw [← hW1]
    have := World.alloc_heap_new (w.alloc (.deferred (some []))) (.loop (rec .ready none))
    rwa [World.size_alloc] at this
  have hD1 : W1.heap[w.heap.size]? = some (.deferred (some [])) := by
    rw [← hW1]
    exact (Below.heap_alloc _ _ _ (by simp)).trans (World.alloc_heap_new w _)
  have hbut1 : But w W1 (fun _ => False) := by
    rw [← hW1]
    exact (But.alloc w _ _).trans (But.alloc _ _ _)
  have hI1 : I [] W1 := hI _ _ _ h0 (hbut1.mono (fun _ h => h.elim))
  have hBp1 : W1.heap[Bp]? = w.heap[Bp]? := hbut1.2.2.2.2 Bp hBp id
  refine ⟨w.heap.size + 1, [{ target := .collected w.heap.size, args := #[] }], W1, { target := .fn (.func gf) lb, args := #[.func (.yield (w.heap.size + 1)) #[] #[]] }, W1, gf,
    #[.func (.yield (w.heap.size + 1)) #[] #[]] ++ lb, W1, ?_, ?_, fun _ _ => trivial, ?_, (fun h => by cases h), ?_⟩
  · rw [← hW1, hrec]
    exact run_enterLoop_outer _ _ _ _ _
  · simp only [resolve, hg]
    simp [go_sem]
  · simp [invoke, go_sem, eg]
  · refine (hit (fun pre W => I pre W ∧ W.heap[w.heap.size + 1]? = some (.loop (rec .ready none)) ∧ W.heap[w.heap.size]? = some (.deferred (some [])))
      (fun W => Ix W ∧ W.heap[w.heap.size + 1]? = some (.loop (rec .done (some .ret))) ∧ W.heap[w.heap.size]? = some (.deferred (some []))) W1 ?_ ?_ ?_ ⟨hI1, hL1, hD1⟩ hBp1).mono ?_
    · rintro pre A B ⟨hi, hl, hd⟩ hbt
      have hlt : w.heap.size + 1 < A.heap.size := (Array.getElem?_eq_some_iff.1 hl).1
      exact ⟨hI _ _ _ hi (hbt.mono (fun _ h => .inl h)), (hbt.2.2.2.2 _ hlt (by omega)).trans hl, (hbt.2.2.2.2 _ (by omega) (by omega)).trans hd⟩
    · rintro pre A ⟨hi, hl, hd⟩
      have hlt : w.heap.size + 1 < A.heap.size := (Array.getElem?_eq_some_iff.1 hl).1
      omega
    · rintro pre x W hok ⟨hi, hl, hd⟩
      have hlt : w.heap.size + 1 < W.heap.size := (Array.getElem?_eq_some_iff.1 hl).1
      have hy := run_yield (P := Tryz.prog) (args := #[Value.string x]) hl (by rw [hrec]; rfl)
      rw [hrec] at hy
      refine ⟨fn, _, assign, body, hy, roundIn_of_wpIn trivial ?_⟩
      refine hassign (w.heap.size + 1) x W _ ?_
      refine ⟨_, run_beginRound hl (by rw [hrec]), ?_⟩
      obtain ⟨W2, hW2⟩ : ∃ W2, W.putObj (w.heap.size + 1) (.loop { rec .ready none with state := .busy }) = W2 := ⟨_, rfl⟩
      rw [hW2]
      have hl2 : W2.heap[w.heap.size + 1]? = some (.loop { rec .ready none with state := .busy }) := by rw [← hW2]; exact World.putObj_heap_same hlt
      have hd2 : W2.heap[w.heap.size]? = some (.deferred (some [])) := by rw [← hW2]; exact (World.putObj_heap_other (by omega)).trans hd
      have hp2 : W2.heap[Bp]? = W.heap[Bp]? := by rw [← hW2]; exact World.putObj_heap_other (by omega)
      have hi2 : I pre W2 := by rw [← hW2]; exact hI _ _ _ hi ((but_put _ _ _).mono (fun _ h => .inr (.inr h)))
      have hlt2 : w.heap.size + 1 < W2.heap.size := (Array.getElem?_eq_some_iff.1 hl2).1
      have fin_ : ∀ (jump : Option Code) (W3 : World), W3.heap[w.heap.size + 1]? = W2.heap[w.heap.size + 1]? → W3.heap[w.heap.size]? = W2.heap[w.heap.size]? →
          (Instr.endRound (w.heap.size + 1) jump).run Tryz.prog W3 = .ok (.bool jump.isNone) (W3.putObj (w.heap.size + 1) (.loop (rec (if jump.isNone then .ready else .done) jump))) ∧
          (W3.putObj (w.heap.size + 1) (.loop (rec (if jump.isNone then .ready else .done) jump))).heap[w.heap.size + 1]? = some (.loop (rec (if jump.isNone then .ready else .done) jump)) ∧
          (W3.putObj (w.heap.size + 1) (.loop (rec (if jump.isNone then .ready else .done) jump))).heap[w.heap.size]? = some (.deferred (some [])) := fun jump W3 e1 e2 => by
        have hl3 := e1.trans hl2
        have := run_endRound (P := Tryz.prog) jump hl3
        rw [hrec] at this ⊢
        exact ⟨this, World.putObj_heap_same (Array.getElem?_eq_some_iff.1 hl3).1, (World.putObj_heap_other (by omega)).trans (e2.trans hd2)⟩
      refine wpIn_mono (hbody pre x W2 hok hi2 hlt2) ?_
      rintro e a3 W3 hp
      cases e with
      | normal =>
        obtain ⟨e1, e2, e3, hi3⟩ := hp
        obtain ⟨hr, hl4, hd4⟩ := fin_ none W3 e1 e2
        refine ⟨_, _, hr, .inl ⟨rfl, ⟨hI _ _ _ hi3 ((but_put _ _ _).mono (fun _ h => .inr (.inr h))), hl4, hd4⟩, ?_⟩⟩
        exact (World.putObj_heap_other (by omega)).trans (e3.trans hp2)
      | ret =>
        obtain ⟨e1, e2, hi3⟩ := hp
        obtain ⟨hr, hl4, hd4⟩ := fin_ (some .ret) W3 e1 e2
        exact ⟨_, _, hr, .inr ⟨rfl, hIx _ _ hi3 ((but_put _ _ _).mono (fun _ h => .inr (.inr h))), hl4, hd4⟩⟩
      | exit id => exact hp.elim
      | goto t => exact hp.elim
      | panic ch => exact hp.elim
      | outgrown => exact hp.elim
    · rintro e W2 ⟨⟨v, rfl⟩, (⟨xs, hf, hi, hl, hd⟩ | ⟨hi, hl, hd⟩)⟩
      · have hend := run_endLoop (P := Tryz.prog) hl (by rw [hrec]; simp)
        rw [hrec] at hend
        exact ⟨none, _, hend, hdone xs _ hf (hI _ _ _ hi ((but_put _ _ _).mono (fun _ h => .inr (.inr h)))) ((World.putObj_heap_other (by omega)).trans hd)⟩
      · have hend := run_endLoop (P := Tryz.prog) hl (by rw [hrec]; simp)
        rw [hrec] at hend
        exact ⟨some .ret, _, hend, hstop _ (hIx _ _ hi ((but_put _ _ _).mono (fun _ h => .inr (.inr h)))) ((World.putObj_heap_other (by omega)).trans hd)⟩
end Go.Proofs.YtfolhmlldoepfaaGreatDoor.Nm
namespace Go.Proofs.YtfolhmlldoepfaaGreatDoor.Nm
open Go.RowKit Go.Shelf
attribute [local go_sem] Oper.semAt_some
set_option maxRecDepth 4000
/-- What stands behind each stroke of a text that begins with one. -/
def partsL : List UInt8 → List (List UInt8)
  | [] => []
  | _ :: t => t.takeWhile (· ≠ 47) :: partsL (t.dropWhile (· ≠ 47))
termination_by l => l.length
decreasing_by have := (List.dropWhile_sublist (l := t) (· ≠ 47)).length_le; simp only [List.length_cons]; omega
theorem partsL_cons (r : ByteArray) (h : 0 < r.size) : partsL r.data.toList = (r.extract 1 r.size).data.toList.takeWhile (· ≠ 47) :: partsL ((r.extract 1 r.size).data.toList.dropWhile (· ≠ 47)) := by
  have e : (r.extract 1 r.size).data.toList = r.data.toList.drop 1 := by
    simp [ByteArray.data_extract]
    exact List.take_of_length_le (by simp)
  rw [e]
  match hr : r.data.toList with
  | [] => exfalso; have : r.data.toList.length = 0 := by rw [hr]; rfl
          have : r.size = r.data.toList.length := by simp [← ByteArray.size_data]
          omega
  | c :: t => rw [partsL]; rfl
theorem index_split (l : List UInt8) (c : UInt8) : (Lib.indexByte l c = -1 → l.takeWhile (· ≠ c) = l ∧ l.dropWhile (· ≠ c) = []) ∧ ∀ o : Nat, Lib.indexByte l c = o → o ≤ l.length ∧ l.takeWhile (· ≠ c) = l.take o ∧ l.dropWhile (· ≠ c) = l.drop o := by
  induction l with
  | nil => simp [Lib.indexByte]
  | cons b l ih =>
    rw [Lib.indexByte]
    by_cases e : b = c
    · subst e
      simp; intro o h; obtain rfl : o = 0 := by omega
      simp
    · have hge := Lib.indexByte_ge l c
      by_cases m : Lib.indexByte l c = -1
      · obtain ⟨h1, h2⟩ := ih.1 m
        simp only [m, beq_self_eq_true, if_true, show (b == c) = false by simpa using e, Bool.false_eq_true, if_false]
        refine ⟨fun _ => ⟨?_, ?_⟩, fun o h => by omega⟩
        · rw [List.takeWhile_cons_of_pos (by simpa using e), h1]
        · rw [List.dropWhile_cons_of_pos (by simpa using e), h2]
      · have eb : (b == c) = false := by simpa using e
        have em : (Lib.indexByte l c == -1) = false := by simpa using m
        simp only [eb, em, Bool.false_eq_true, if_false]
        refine ⟨fun h => by omega, fun o h => ?_⟩
        obtain ⟨k, rfl⟩ : ∃ k, o = k + 1 := ⟨o - 1, by omega⟩
        obtain ⟨h1, h2, h3⟩ := ih.2 k (by omega)
        refine ⟨by simpa using h1, ?_, ?_⟩
        · rw [List.takeWhile_cons_of_pos (by simpa using e), h2]; rfl
        · rw [List.dropWhile_cons_of_pos (by simpa using e), h3]; rfl
theorem index_span {t : ByteArray} {o : Nat} (h : Lib.indexByte t.data.toList (47 : Int).toNat.toUInt8 = o) : o ≤ t.size ∧ t.data.toList.takeWhile (· ≠ 47) = (t.extract 0 o).data.toList ∧ t.data.toList.dropWhile (· ≠ 47) = (t.extract o t.size).data.toList := by
  obtain ⟨h1, h2, h3⟩ := (index_split t.data.toList 47).2 o h
  refine ⟨by simpa using h1, h2.trans ?_, h3.trans ?_⟩
  · simp [ByteArray.data_extract]
  · simp [ByteArray.data_extract]
    exact (List.take_of_length_le (by simp)).symm
theorem index_none {t : ByteArray} {i : Int} (h : Lib.indexByte t.data.toList (47 : Int).toNat.toUInt8 = i) (h0 : ¬ 0 ≤ i) : t.data.toList.takeWhile (· ≠ 47) = t.data.toList ∧ t.data.toList.dropWhile (· ≠ 47) = [] :=
  (index_split t.data.toList 47).1 (by have hg := Lib.indexByte_ge t.data.toList 47; have e : Lib.indexByte t.data.toList 47 = i := h; omega)
def strAt (W : World) (b : Nat) : Nat := match W.cell? ⟨b, 0, none⟩ with | some (.string s) => s.size | _ => 0
set_option maxHeartbeats 1000000 in
theorem iter_in (n l Bp : Nat) (p : ByteArray) (J : List ByteArray → World → Prop) (Jx : World → Prop) (W : World)
    (hJ : ∀ pre W W', J pre W → But W W' (fun k => k = Bp) → J pre W') (hJb : ∀ pre W, J pre W → Bp < W.heap.size)
    (hY : ∀ pre x W, (pre ++ [x]).map (·.data.toList) <+: partsL p.data.toList → J pre W → YieldAt Fence.wide (n - 1 - 1) Tryz.prog l #[.string x] W fun e W' => (e = .returned (.bool true) ∧ J (pre ++ [x]) W' ∧ W'.heap[Bp]? = W.heap[Bp]?) ∨ (e = .returned (.bool false) ∧ Jx W'))
    (h0 : J [] W) (hc : W.heap[Bp]? = some (.cells #[.string p] 9 (0, 0))) :
    CallsIn Fence.wide (n - 1) Tryz.prog 145 #[.func (.yield l) #[] #[], .pointer (some ⟨Bp, 0, none⟩)] W fun e W' => (∃ v, e = .returned v) ∧ ((∃ xs : List ByteArray, xs.map (·.data.toList) = partsL p.data.toList ∧ J xs W') ∨ Jx W') := by
  have H1 := Lib.hid hJ
  have H2 := Lib.hid hJb
  have H3 := Lib.hid hY
  have H4 := Lib.hid h0
  have H5 := Lib.hid hc
  clear hJ hJb hY h0 hc
  refine callsIn_of_wp Tryz.func145 rfl trivial ?_
  simp only [Tryz.ntmps145, List.size_toArray, List.length_cons, List.length_nil, Nat.reduceAdd, Nat.reduceSub, Array.replicate_succ, Array.replicate_zero, List.push_toArray, List.append_toArray, List.nil_append, List.cons_append]
  gi_wp2_with fail
  gi_loopw [3, 4, 5] (fun _ _ _ Wr => ∃ (pre : List ByteArray) (r : ByteArray), J pre Wr ∧ Wr.heap[Bp]? = some (.cells #[.string r] 9 (0, 0)) ∧ partsL p.data.toList = pre.map (·.data.toList) ++ partsL r.data.toList) (fun _ _ _ Wr => strAt Wr Bp)
  case atStart => exact ⟨[], p, H4.out, H5.out, rfl⟩
  case round =>
    obtain ⟨pre, r, hj, hcr, hp⟩ := hrel
    have hc0 : wr.cell? ⟨Bp, 0, none⟩ = some (.string r) := (blk_cell hcr 0).trans rfl
    have hf0 := blk_frozen hcr 0
    have HJ := Lib.hid hj
    have HP := Lib.hid hp
    have HCR := Lib.hid hcr
    clear hj hp hcr
    by_cases hr : r.toList = []
    · have hr1 : (r.toList == []) = true := by simp [hr]
      have hr2 : (r.toList.isEmpty) = true := by simp [hr]
      gi_wp2_with fail
      go_end0
      refine ⟨⟨_, rfl⟩, .inl ⟨pre, ?_, HJ.out⟩⟩
      have hr0 : r.data.toList = [] := by simpa [ByteArray.toList_eq] using hr
      rw [HP.out, hr0, partsL]; simp
    · have hr2 : (!r.toList.isEmpty) = true := by simp [hr]
      have hr3 : (r.toList.isEmpty) = false := by simp [hr]
      have hsz : ¬ ((r.size : Int) < 1) := by
        intro h
        apply hr
        have e : r = ByteArray.empty := ByteArray.size_eq_zero_iff.1 (by omega)
        rw [e]; simp [ByteArray.toList_eq]
      obtain ⟨t, ht⟩ : ∃ t, r.extract 1 r.size = t := ⟨_, rfl⟩
      obtain ⟨i, hi⟩ : ∃ i, Lib.indexByte t.data.toList (47 : Int).toNat.toUInt8 = i := ⟨_, rfl⟩
      have hib := (callsIn_wide (n := n - 1 - 1)).2 (Tryz.strings_IndexByte t 47 wr)
      have hpl : partsL r.data.toList = t.data.toList.takeWhile (· ≠ 47) :: partsL (t.data.toList.dropWhile (· ≠ 47)) := by
        rw [← ht]; exact partsL_cons r (by omega)
      have hts : t.size < r.size := by rw [← ht, ByteArray.size_extract]; omega
      by_cases h0 : 0 ≤ i
      · obtain ⟨o, rfl⟩ := Int.eq_ofNat_of_zero_le h0
        have hsp := index_span hi
        have ho : o ≤ t.size := hsp.1
        have hoi : ¬ ((t.size : Int) < (o : Int)) := by omega
        gi_wp2_with (refine ⟨trivial, (fun h => by cases h), ?_⟩; gi_at_call 146; refine hib.mono ?_; rintro e w1 ⟨rfl, rfl⟩; rw [hi])
        gi_region
        have hj2 : J pre w1.drew := H1.out _ _ _ HJ.out ⟨rfl, rfl, rfl, Nat.le_refl _, fun _ _ _ => rfl⟩
        obtain ⟨fn, tmps, assign, body, hy, hR⟩ := H3.out pre (t.extract 0 o) w1.drew ⟨partsL (t.extract o t.size).data.toList, by rw [HP.out, hpl, hsp.2.1, hsp.2.2]; simp⟩ hj2
        gi_wp2_with fail
        refine ⟨(fun h => by cases h), hR.mono ?_⟩
        rintro e W3 (⟨rfl, hJ3, hk3⟩ | ⟨rfl, hJx3⟩)
        · have hb3 := hk3.trans (blk_drew HCR.out)
          have hc3 : W3.cell? ⟨Bp, 0, none⟩ = some (.string r) := (blk_cell hb3 0).trans rfl
          have hf3 := blk_frozen hb3 0
          gi_wp2_with fail
          go_roundw
          case rel =>
            refine ⟨pre ++ [t.extract 0 o], t.extract o t.size, H1.out _ _ _ hJ3 (But.setCell _ _ _), blk_set hb3 0 _, ?_⟩
            rw [HP.out, hpl, hsp.2.1, hsp.2.2]; simp
          case measure =>
            have : (t.extract o t.size).size < r.size := by rw [ByteArray.size_extract]; omega
            simp only [strAt, blk_cell (blk_set hb3 0 _), hc0]; simpa using this
        · gi_wp2_with fail
          refine bodyPost_ret (results_none rfl _ _ _) rfl ?_
          exact ⟨⟨_, rfl⟩, .inr hJx3⟩
      · have hnn : (decide (0 ≤ i)) = false := by simpa using h0
        have hsp := index_none hi h0
        obtain ⟨fn, tmps, assign, body, hy, hR⟩ := H3.out pre t wr ⟨[], by rw [HP.out, hpl, hsp.1, hsp.2, partsL]; simp⟩ HJ.out
        gi_wp2_with (refine ⟨trivial, (fun h => by cases h), ?_⟩; gi_at_call 146; refine hib.mono ?_; rintro e w1 ⟨rfl, rfl⟩; rw [hi])
        refine ⟨(fun h => by cases h), hR.mono ?_⟩
        rintro e W3 (⟨rfl, hJ3, hk3⟩ | ⟨rfl, hJx3⟩)
        · have hb3 := hk3.trans HCR.out
          have hc3 : W3.cell? ⟨Bp, 0, none⟩ = some (.string r) := (blk_cell hb3 0).trans rfl
          have hf3 := blk_frozen hb3 0
          gi_wp2_with fail
          go_roundw
          case rel => 
            refine ⟨pre ++ [t], { data := #[] }, H1.out _ _ _ hJ3 (But.setCell _ _ _), blk_set hb3 0 _, ?_⟩
            rw [HP.out, hpl, hsp.1, hsp.2]; simp
          case measure =>
            have : ({ data := #[] } : ByteArray).size < r.size := by have : ({ data := #[] } : ByteArray).size = 0 := rfl; omega
            simp only [strAt, blk_cell (blk_set hb3 0 _), hc0]; simpa using this
        · gi_wp2_with fail
          refine bodyPost_ret (results_none rfl _ _ _) rfl ?_
          exact ⟨⟨_, rfl⟩, .inr hJx3⟩
end Go.Proofs.YtfolhmlldoepfaaGreatDoor.Nm
namespace Go.Proofs.YtfolhmlldoepfaaGreatDoor.Nm
open Go.RowKit Go.Shelf
attribute [local go_sem] Oper.semAt_some
set_option maxRecDepth 4000
theorem checkV_01 (s : ByteArray) : checkV s = 0 ∨ checkV s = 31 := by unfold checkV; split <;> (try split) <;> simp
theorem parts_in (p : ByteArray) (w : World) : Calls Tryz.prog 136 #[.string p] w fun e w' => e = .returned (.func (.func 145) #[] #[.pointer (some ⟨w.heap.size, 0, none⟩)]) ∧ w' = w.alloc (.cells #[.string p] 9) := by
  refine (callsIn_wide (n := 3)).1 ?_
  refine callsIn_of_wp Tryz.func136 rfl trivial ?_
  simp only [Tryz.ntmps136, List.size_toArray, List.length_cons, List.length_nil, Nat.reduceAdd, Nat.reduceSub, Array.replicate_succ, Array.replicate_zero, List.push_toArray, List.append_toArray, List.nil_append, List.cons_append]
  gi_wp2
  go_ret
  exact ⟨rfl, rfl⟩
def partsB (p : ByteArray) : List ByteArray := (partsL p.data.toList).map (fun l => ⟨l.toArray⟩)
theorem partsB_of {xs : List ByteArray} {p : ByteArray} (h : xs.map (·.data.toList) = partsL p.data.toList) : xs = partsB p := by
  rw [partsB, ← h, List.map_map]
  exact (List.map_id'' (f := _) (fun x => rfl) xs).symm
/-- What the variable fault holds when these have come. -/
def faultOf (xs : List ByteArray) : Int := if xs.all (fun x => checkV x == 0) then 0 else 31
def splitV (a0 : ByteArray) : List ByteArray × Int :=
  if 16 < (partsB a0).length then ([], 33) else if faultOf (partsB a0) = 0 then (partsB a0, 0) else ([], 31)
def names_Split.f (a0 : ByteArray) : Option (List ByteArray × Int) :=
  some (if a0.data.toList.head? ≠ some 47 then ([], 32) else if a0.data.toList = [47] then ([], 0) else splitV a0)
theorem faultOf_snoc (xs : List ByteArray) (x : ByteArray) : faultOf (xs ++ [x]) = if faultOf xs = 0 then checkV x else faultOf xs := by
  unfold faultOf
  rw [List.all_append]
  rcases checkV_01 x with e | e <;> by_cases h : xs.all (fun x => checkV x == 0) = true <;> simp [h, e]
theorem Tryz.infoStr : (Tryz.prog.info? 9).map (fun i => (i.zero, i.size, i.bytes)) = some (some (.string { data := #[] }), 1, 16) := by kernel_rfl
theorem own_slice {w : World} {base : Nat} {e : TypeId} {size n : Nat} {v : Value} {xs : List Value} (h : w.ownsRow base e size v n xs) : ∃ A c, v = .slice A n c := by
  rcases h.2 with ⟨rfl, rfl⟩ | ⟨g, cap, cur, rfl, _⟩
  · exact ⟨_, _, rfl⟩
  · exact ⟨_, _, rfl⟩
def splI (w : World) (N : Nat) (pre : List ByteArray) (W : World) : Prop := ∃ v, Boxed W (N + 1 + 1) 141 v ∧ W.ownsRow (N + 7) 9 1 v pre.length (pre.map Value.string) ∧ Boxed W (N + 1 + 1 + 1) 25 (.int .i64 (faultOf pre)) ∧ Boxed W N 141 (.slice none 0 0) ∧ Boxed W (N + 1) 25 (.int .i64 0) ∧ pre.length ≤ 16 ∧ Below N w W
def splX (w : World) (N : Nat) (s : ByteArray) (W : World) : Prop := Boxed W N 141 (.slice none 0 0) ∧ Boxed W (N + 1) 25 (.int .i64 33) ∧ 16 < (partsB s).length ∧ Below N w W
theorem Boxed.but {W W' : World} {S : Nat → Prop} {B : Nat} {t : TypeId} {v : Value} (h : Boxed W B t v) (hb : But W W' S) (hn : ¬ S B) : Boxed W' B t v := (hb.2.2.2.2 B h.lt hn).trans h
theorem splI_but {w : World} {N : Nat} {pre : List ByteArray} {W W' : World} {S : Nat → Prop} (hS : ∀ k, S k → N + 4 ≤ k ∧ k < N + 7) (h : splI w N pre W) (hb : But W W' S) : splI w N pre W' := by
  obtain ⟨v, h1, h2, h3, h4, h5, h6, h7⟩ := h
  have hn : ∀ k, k < N + 4 → ¬ S k := fun k hk hs => by have := hS k hs; omega
  have hl := h4.lt
  exact ⟨v, Boxed.but h1 hb (hn _ (by omega)), own_move h2 (fun k hk => hb.2.2.2.2 k (own_lt h2 k hk) (fun hs => by have := hS k hs; have := own_base h2 k hk; omega)), Boxed.but h3 hb (hn _ (by omega)), Boxed.but h4 hb (hn _ (by omega)), Boxed.but h5 hb (hn _ (by omega)), h6, hb.below h7 (by omega) (fun k hk => by have := hS k hk; omega)⟩
theorem splX_but {w : World} {N : Nat} {s : ByteArray} {W W' : World} {S : Nat → Prop} (hS : ∀ k, S k → N + 4 ≤ k ∧ k < N + 7) (h : splX w N s W) (hb : But W W' S) : splX w N s W' := by
  obtain ⟨h4, h5, h6, h7⟩ := h
  have hn : ∀ k, k < N + 4 → ¬ S k := fun k hk hs => by have := hS k hs; omega
  have hl := h4.lt
  exact ⟨Boxed.but h4 hb (hn _ (by omega)), Boxed.but h5 hb (hn _ (by omega)), h6, hb.below h7 (by omega) (fun k hk => by have := hS k hk; omega)⟩
theorem Boxed.below {W W' : World} {B : Nat} {t : TypeId} {v : Value} (h : Boxed W B t v) (hb : Below W.heap.size W W') : Boxed W' B t v := (hb.block B h.lt).trans h
theorem Boxed.far {W : World} {B : Nat} {t : TypeId} {v : Value} (h : Boxed W B t v) {p : Addr} (hp : B ≠ p.block) (u : Value) : Boxed (W.setCell p u) B t v := (Below.heap_setCell W p u B hp).trans h
theorem spl_close {w W Wc w1 : World} {N : Nat} {pre : List ByteArray} {x : ByteArray} {v v' : Value} {tmp : Obj} {Ix : World → Prop} {a : Act} (hsize : N + 6 < Wc.heap.size) (hv : Boxed Wc (N + 1 + 1) 141 v)
    (hrow : Wc.ownsRow (N + 7) 9 1 v pre.length (pre.map Value.string)) (hfa : Boxed Wc (N + 1 + 1 + 1) 25 (.int .i64 (faultOf (pre ++ [x])))) (hr0 : Boxed Wc N 141 (.slice none 0 0)) (hr1 : Boxed Wc (N + 1) 25 (.int .i64 0)) (hle : pre.length < 16) (hB : Below N w Wc)
    (hk : ∀ k, N + 4 ≤ k → k < N + 7 → Wc.heap[k]? = W.heap[k]?) (hown' : w1.ownsRow (N + 7) 9 1 v' (pre.length + 1) (pre.map Value.string ++ [.string x])) (hgrow : (Wc.alloc tmp).grownBy w1 v.ownBlock) :
    roundLeft (N + 5 + 1) (N + 5) (N + 4) (splI w N (pre ++ [x])) Ix W .normal a (w1.setCell ⟨N + 1 + 1, 0, none⟩ v') := by
  obtain ⟨hv1, hv2, _, _, hb2⟩ := Boxed.appended hv (by decide) (own_weaken hrow (by omega : N ≤ N + 7)) (by omega) (by omega) (own_weaken hown' (by omega : N ≤ N + 7)) hgrow
  have hne : ∀ k, k < N + 7 → some k ≠ v.ownBlock := fun k hk e => by have := own_base hrow k e.symm; omega
  have keep : ∀ k, k < N + 7 → k ≠ N + 1 + 1 → (w1.setCell ⟨N + 1 + 1, 0, none⟩ v').heap[k]? = Wc.heap[k]? := fun k h1 h2 =>
    (Below.heap_setCell _ _ _ k h2).trans ((hgrow.block k (by simp; omega) (hne k h1)).trans (Below.heap_alloc _ _ _ (by omega)))
  refine ⟨(keep _ (by omega) (by omega)).trans (hk _ (by omega) (by omega)), (keep _ (by omega) (by omega)).trans (hk _ (by omega) (by omega)), (keep _ (by omega) (by omega)).trans (hk _ (by omega) (by omega)), ?_⟩
  refine ⟨v', hv2, ?_, (keep _ (by omega) (by omega)).trans hfa, (keep _ (by omega) (by omega)).trans hr0, (keep _ (by omega) (by omega)).trans hr1, by simp; omega, hB.trans hb2⟩
  have := hown'.kept (grownBy_setCell' w1 (N + 1 + 1) v') (.inr (hv1.not_row (by decide) hown').symm)
  simpa using this
theorem Boxed.put {W : World} {B D : Nat} {t : TypeId} {v : Value} (h : Boxed W B t v) (hn : B ≠ D) (o : Obj) : Boxed (W.putObj D o) B t v := (World.putObj_heap_other (fun e => hn e)).trans h
theorem fin_row {W : World} {N n : Nat} {v : Value} {xs : List Value} (h : W.ownsRow (N + 7) 9 1 v n xs) (a b : Value) (o : Obj) : (((W.setCell ⟨N, 0, none⟩ a).setCell ⟨N + 1, 0, none⟩ b).putObj (N + 5) o).ownsRow N 9 1 v n xs :=
  own_weaken (own_move h fun k hk => by
    have := own_base h k hk
    rw [World.putObj_heap_other (by omega), Below.heap_setCell _ _ _ _ (by simp; omega), Below.heap_setCell _ _ _ _ (by simp; omega)]) (by omega)
theorem splitV_deep {s : ByteArray} (h : 16 < (partsB s).length) : splitV s = ([], 33) := by simp [splitV, h]
theorem splitV_good {s : ByteArray} (h : (partsB s).length ≤ 16) (hf : faultOf (partsB s) = 0) : splitV s = (partsB s, 0) := by simp [splitV, show ¬ 16 < (partsB s).length by omega, hf]
theorem splitV_bad {s : ByteArray} (h : (partsB s).length ≤ 16) (hf : ¬ faultOf (partsB s) = 0) : splitV s = ([], 31) := by simp [splitV, show ¬ 16 < (partsB s).length by omega, hf]
theorem faultOf_bad {xs : List ByteArray} (hf : ¬ faultOf xs = 0) : faultOf xs = 31 := by unfold faultOf at *; split <;> simp_all
theorem split_main (s : ByteArray) (h0 : (s.toList == []) = false) (h1 : (s.toList == [47]) = false) (hs : 0 < s.size) (hb : (s[0]'hs) = 47) (w : World) :
    Calls Tryz.prog 125 #[.string s] w fun e w' => ∃ v0_ : Value, e = .returned (.tuple #[v0_, .int .i64 (splitV s).2]) ∧ w'.ownsRow w.heap.size 9 1 v0_ (splitV s).1.length ((splitV s).1.map Value.string) ∧ Below w.heap.size w w' := by
  refine (callsIn_wide (n := 9)).1 ?_
  refine callsIn_of_wp_marks Tryz.func125 rfl trivial ?_
  simp only [Tryz.ntmps125, List.size_toArray, List.length_cons, List.length_nil, Nat.reduceAdd, Nat.reduceSub, Array.replicate_succ, Array.replicate_zero, List.push_toArray, List.append_toArray, List.nil_append, List.cons_append]
  gi_wp2_with (refine ⟨trivial, ?_⟩; gi_at_call 136; refine (callsIn_wide.2 (parts_in s _)).mono ?_; rintro e w1 ⟨rfl, rfl⟩)
  obtain ⟨W0, hW0⟩ : ∃ W0, (((((w.alloc (Obj.cells #[Value.slice none 0 0] 141)).alloc (Obj.cells #[Value.int IntKind.i64 0] 25)).alloc (Obj.cells #[Value.slice none 0 0] 141)).alloc (Obj.cells #[Value.int IntKind.i64 0] 25)).alloc (Obj.cells #[Value.string s] 9)) = W0 := ⟨_, rfl⟩
  have hsz : W0.heap.size = w.heap.size + 5 := by rw [← hW0]; simp
  have b0 : Boxed W0 w.heap.size 141 (.slice none 0 0) := by
    rw [← hW0]; exact ((((Boxed.new w _ _).alloc _).alloc _).alloc _).alloc _
  have b1 : Boxed W0 (w.heap.size + 1) 25 (.int .i64 0) := by
    rw [← hW0]; have := Boxed.new (w.alloc (Obj.cells #[Value.slice none 0 0] 141)) 25 (.int .i64 0)
    rw [World.size_alloc] at this; exact ((this.alloc _).alloc _).alloc _
  have b2 : Boxed W0 (w.heap.size + 1 + 1) 141 (.slice none 0 0) := by
    rw [← hW0]; have := Boxed.new ((w.alloc (Obj.cells #[Value.slice none 0 0] 141)).alloc (Obj.cells #[Value.int IntKind.i64 0] 25)) 141 (.slice none 0 0)
    rw [World.size_alloc, World.size_alloc] at this; exact (this.alloc _).alloc _
  have b3 : Boxed W0 (w.heap.size + 1 + 1 + 1) 25 (.int .i64 0) := by
    rw [← hW0]; have := Boxed.new (((w.alloc (Obj.cells #[Value.slice none 0 0] 141)).alloc (Obj.cells #[Value.int IntKind.i64 0] 25)).alloc (Obj.cells #[Value.slice none 0 0] 141)) 25 (.int .i64 0)
    rw [World.size_alloc, World.size_alloc, World.size_alloc] at this; exact this.alloc _
  have b4 : Boxed W0 (w.heap.size + 4) 9 (.string s) := by
    rw [← hW0]; have := Boxed.new ((((w.alloc (Obj.cells #[Value.slice none 0 0] 141)).alloc (Obj.cells #[Value.int IntKind.i64 0] 25)).alloc (Obj.cells #[Value.slice none 0 0] 141)).alloc (Obj.cells #[Value.int IntKind.i64 0] 25)) 9 (.string s)
    rw [World.size_alloc, World.size_alloc, World.size_alloc, World.size_alloc] at this; exact this
  have hbel : Below w.heap.size w W0 := by
    rw [← hW0]; exact ((((((Below.refl _ w).alloc (Nat.le_refl _) _).alloc (by simp) _).alloc (by simp; omega) _).alloc (by simp; omega) _).alloc (by simp; omega) _)
  simp only [hW0]
  have hbig : w.heap.size + 1 + 1 + 1 + 1 = w.heap.size + 4 := by omega
  refine range_own (n := 9) (gf := 145) (lb := #[.pointer (some ⟨w.heap.size + 1 + 1 + 1 + 1, 0, none⟩)]) rfl (enters_of Tryz.func145 (by kernel_rfl) rfl) (w.heap.size + 1 + 1 + 1 + 1) (by omega)
    (splI w w.heap.size) (splX w w.heap.size s) (fun xs => xs.map (·.data.toList) = partsL s.data.toList) (fun q => q.map (·.data.toList) <+: partsL s.data.toList)
    (fun pre A B h hb => splI_but (by rintro k (rfl | rfl | rfl) <;> omega) h hb) (fun A B h hb => splX_but (by rintro k (rfl | rfl | rfl) <;> omega) h hb) ?h0 ?hit
    (fun x => { tmps := #[.string s, undef, .pointer (some ⟨w.heap.size, 0, none⟩), .pointer (some ⟨w.heap.size + 1, 0, none⟩), .pointer (some ⟨w.heap.size + 1 + 1, 0, none⟩), .pointer (some ⟨w.heap.size + 1 + 1 + 1, 0, none⟩),
      .string x, .string s, .bool false, .bool false, .string s, .int .u8 47, .bool false, .bool false, .string s, .bool false, .string s, .func (.func 145) #[] #[.pointer (some ⟨w.heap.size + 1 + 1 + 1 + 1, 0, none⟩)], .string x,
      undef, undef, undef, undef, undef, undef, undef, undef, undef, undef, undef, undef, undef, undef, undef], defers := [] }) ?assign ?body ?done ?stop
  case h0 => exact ⟨.slice none 0 0, b2, World.ownsRow_nil _ _ _ _, b3, b0, b1, by simp, hbel⟩
  case hit =>
    intro J Jx W hJ hJb hY h0 hcell
    exact iter_in 9 (W0.heap.size + 1) _ s J Jx W hJ hJb hY h0 (hcell.trans (by rw [hbig]; exact b4))
  case assign =>
    intro l x W K hK
    gi_wp2
    exact hK
  case body =>
    rintro pre x W hok ⟨v, hv, hrow, hfa, hr0, hr1, hle, hB⟩ hlt
    obtain ⟨A, c, rfl⟩ := own_slice hrow
    have hvc := hv.cell
    have hvf := hv.frozen
    have hfc := hfa.cell
    have hff := hfa.frozen
    have h0c := hr0.cell
    have h0f := hr0.frozen
    have h1c := hr1.cell
    have h1f := hr1.frozen
    obtain ⟨i0, hi, hz0, hz1, hz2⟩ := info_parts Tryz.infoStr
    by_cases h16 : pre.length = 16
    · have hq : (decide ((pre.length : Int) = 16)) = true := by simp [h16]
      gi_wp2_with fail
      refine ⟨?_, ?_, ?_⟩
      · rw [Below.heap_setCell _ _ _ _ (by simp <;> omega), Below.heap_setCell _ _ _ _ (by simp <;> omega)]
      · rw [Below.heap_setCell _ _ _ _ (by simp <;> omega), Below.heap_setCell _ _ _ _ (by simp <;> omega)]
      · refine ⟨Boxed.far (hr0.set _) (by simp) _, (Boxed.far hr1 (by simp) _).set _, ?_, (hB.setCell (p := ⟨w.heap.size, 0, none⟩) (Nat.le_refl _) _).setCell (p := ⟨w.heap.size + 1, 0, none⟩) (Nat.le_succ _) _⟩
        have hl := hok.length_le
        have he : (partsB s).length = (partsL s.data.toList).length := by simp [partsB]
        simp at hl; omega
    · have hq : (decide ((pre.length : Int) = 16)) = false := by simp; omega
      by_cases hf0 : faultOf pre = 0
      · have hf1 : (faultOf pre == 0) = true := by simp [hf0]
        gi_wp2_with first
          | (refine ⟨trivial, ?_⟩; gi_at_call 124; refine (CallsIn.inRound _ (callsIn_wide.2 (names_Check.calls x _ W rfl))).mono ?_; rintro e wc ⟨rfl, hbc⟩
             have hvw := (Boxed.below hv hbc).cell; have hvfw := (Boxed.below hv hbc).frozen; have hfw := (Boxed.below hfa hbc).cell; have hffw := (Boxed.below hfa hbc).frozen
             have hone : ∀ j u, [Value.string x][j]? = some u → ((wc.setCell ⟨w.heap.size + 1 + 1 + 1, 0, none⟩ (.int .i64 (checkV x))).alloc (.cells #[.string x] 9)).cell? ((⟨wc.heap.size, 0, none⟩ : Addr).add j) = some u := by
               have hz : (wc.setCell ⟨w.heap.size + 1 + 1 + 1, 0, none⟩ (.int .i64 (checkV x))).heap.size = wc.heap.size := by simp
               have := cell_one_new (wc.setCell ⟨w.heap.size + 1 + 1 + 1, 0, none⟩ (.int .i64 (checkV x))) (.string x) 9
               rwa [hz] at this
             have hrowc : (wc.setCell ⟨w.heap.size + 1 + 1 + 1, 0, none⟩ (.int .i64 (checkV x))).ownsRow (w.heap.size + 7) 9 1 (Value.slice A pre.length c) pre.length (List.map Value.string pre) := own_move hrow (fun k hk => (Below.heap_setCell _ _ _ k (by have := own_base hrow k hk; simp; omega)).trans (hbc.block k (own_lt hrow k hk))))
          | (gi_at_builtin; refine wpListIn_append_own _ rfl _ _ 141 rfl (w.heap.size + 7) 9 i0 _ 1 16 (by kernel_rfl) hi hz0 hz1 hz2 rfl (by decide) _ _ _ rfl (hrowc.alloc _) ⟨wc.heap.size, 0, none⟩ 1 1 [.string x] rfl rfl hone (by simp [Value.oneCell']) (by simp [maxLen]; omega) (by omega) (by have := hbc.size; simp; omega) ?_
             intro v' w1 hown' hgrow _; obtain ⟨g', cap', rfl⟩ := ownsRow_succ hown'
             have hv1 := ((Boxed.far (p := ⟨w.heap.size + 1 + 1 + 1, 0, none⟩) (Boxed.below hv hbc) (by simp) (.int .i64 (checkV x))).alloc _).kept hgrow (fun e => by have := own_base hrow _ e.symm; omega)
             have hc1 := hv1.cell; have hf1 := hv1.frozen)
        simp only [hsz]
        exact spl_close (by have := hbc.size; simp; omega) (Boxed.far (p := ⟨w.heap.size + 1 + 1 + 1, 0, none⟩) (Boxed.below hv hbc) (by simp) _) hrowc (by rw [faultOf_snoc, if_pos hf0]; exact (Boxed.below hfa hbc).set _) (Boxed.far (Boxed.below hr0 hbc) (by simp; omega) _) (Boxed.far (Boxed.below hr1 hbc) (by simp) _) (by omega)
          ((hB.trans (hbc.mono (by omega))).setCell (p := ⟨w.heap.size + 1 + 1 + 1, 0, none⟩) (by simp; omega) _) (fun k h1 h2 => (Below.heap_setCell _ _ _ _ (by simp; omega)).trans (hbc.block k (by omega))) hown' hgrow
      · have hf1 : (faultOf pre == 0) = false := by simp [hf0]
        gi_wp2_with 
          (gi_at_builtin; refine wpListIn_append_own _ rfl _ _ 141 rfl (w.heap.size + 7) 9 i0 _ 1 16 (by kernel_rfl) hi hz0 hz1 hz2 rfl (by decide) _ _ _ rfl (hrow.alloc _) ⟨W.heap.size, 0, none⟩ 1 1 [.string x] rfl rfl (cell_one_new _ _ _) (by simp [Value.oneCell']) (by simp [maxLen]; omega) (by omega) (by simp; omega) ?_
           intro v' w1 hown' hgrow _; obtain ⟨g', cap', rfl⟩ := ownsRow_succ hown'
           have hv1 := (hv.alloc _).kept hgrow (fun e => by have := own_base hrow _ e.symm; omega)
           have hc1 := hv1.cell; have hf1 := hv1.frozen)
        exact spl_close (by omega) hv hrow (by rw [faultOf_snoc, if_neg hf0]; exact hfa) hr0 hr1 (by omega) hB (fun _ _ _ => rfl) hown' hgrow
  case done =>
    intro xs W hfin ⟨v, hv, hrow, hfa, hr0, hr1, hle, hB⟩ hK
    obtain ⟨A, c, rfl⟩ := own_slice hrow
    obtain rfl := partsB_of hfin
    simp only [hsz] at hK ⊢
    have hvc := hv.cell
    have hvf := hv.frozen
    have hfc := hfa.cell
    have hff := hfa.frozen
    have h0c := hr0.cell
    have h0f := hr0.frozen
    have h1c := hr1.cell
    have h1f := hr1.frozen
    by_cases hf0 : faultOf (partsB s) = 0
    · have hf1 : (faultOf (partsB s) == 0) = true := by simp [hf0]
      gi_wp2_with fail
      refine ⟨by simp, .inl ⟨_, _, rfl, run_takeDeferred (((Below.heap_setCell _ _ _ _ (by simp)).trans (Below.heap_setCell _ _ _ _ (by simp))).trans hK), ?_⟩⟩
      have ho := fin_row hrow (Value.slice A (partsB s).length c) (.int .i64 0) (.deferred none)
      have e0 := (Boxed.put (D := w.heap.size + 5) (Boxed.far (p := ⟨w.heap.size + 1, 0, none⟩) (hr0.set (Value.slice A (partsB s).length c)) (by simp) (.int .i64 0)) (by omega) (.deferred none)).cell
      have e1 := (Boxed.put (D := w.heap.size + 5) ((Boxed.far (p := ⟨w.heap.size, 0, none⟩) hr1 (by simp) (Value.slice A (partsB s).length c)).set (.int .i64 0)) (by omega) (.deferred none)).cell
      have hbf := (but_put ((W.setCell ⟨w.heap.size, 0, none⟩ (Value.slice A (partsB s).length c)).setCell ⟨w.heap.size + 1, 0, none⟩ (.int .i64 0)) (w.heap.size + 5) (.deferred none)).below (n := w.heap.size) (w := w)
        ((hB.setCell (p := ⟨w.heap.size, 0, none⟩) (Nat.le_refl _) _).setCell (p := ⟨w.heap.size + 1, 0, none⟩) (Nat.le_succ _) _) (by have := hr0.lt; simp; omega) (by rintro k rfl; omega)
      obtain ⟨Wf, hWf⟩ : ∃ Wf, (((W.setCell ⟨w.heap.size, 0, none⟩ (Value.slice A (partsB s).length c)).setCell ⟨w.heap.size + 1, 0, none⟩ (.int .i64 0)).putObj (w.heap.size + 5) (.deferred none)) = Wf := ⟨_, rfl⟩
      rw [hWf] at ho e0 e1 hbf ⊢
      rw [splitV_good hle hf0]
      exact ⟨.tuple #[Value.slice A (partsB s).length c, .int .i64 0], by simp [results, Tryz.results125, go_sem, e0, e1], _, rfl, ho, hbf⟩
    · have hf1 : (faultOf (partsB s) == 0) = false := by simp [hf0]
      gi_wp2_with fail
      gi_region
      gi_wp2_with fail
      have hK2 : ((W.setCell ⟨w.heap.size, 0, none⟩ (Value.slice none 0 0)).setCell ⟨w.heap.size + 1, 0, none⟩ (.int .i64 (faultOf (partsB s)))).drew.heap[w.heap.size + 5]? = some (Obj.deferred (some [])) :=
        ((Below.heap_setCell (W.setCell ⟨w.heap.size, 0, none⟩ (Value.slice none 0 0)) ⟨w.heap.size + 1, 0, none⟩ _ _ (by simp)).trans (Below.heap_setCell _ _ _ _ (by simp))).trans hK
      refine ⟨by simp, .inl ⟨_, _, rfl, run_takeDeferred hK2, ?_⟩⟩
      have e0 : (((W.setCell ⟨w.heap.size, 0, none⟩ (Value.slice none 0 0)).setCell ⟨w.heap.size + 1, 0, none⟩ (.int .i64 (faultOf (partsB s)))).drew.putObj (w.heap.size + 5) (.deferred none)).cell? ⟨w.heap.size, 0, none⟩ = some (Value.slice none 0 0) :=
        (Boxed.put (W := ((W.setCell ⟨w.heap.size, 0, none⟩ (Value.slice none 0 0)).setCell ⟨w.heap.size + 1, 0, none⟩ (.int .i64 (faultOf (partsB s)))).drew) (D := w.heap.size + 5) (Boxed.far (p := ⟨w.heap.size + 1, 0, none⟩) (hr0.set (Value.slice none 0 0)) (by simp) (.int .i64 (faultOf (partsB s)))) (by omega) (.deferred none)).cell
      have e1 : (((W.setCell ⟨w.heap.size, 0, none⟩ (Value.slice none 0 0)).setCell ⟨w.heap.size + 1, 0, none⟩ (.int .i64 (faultOf (partsB s)))).drew.putObj (w.heap.size + 5) (.deferred none)).cell? ⟨w.heap.size + 1, 0, none⟩ = some (.int .i64 (faultOf (partsB s))) :=
        (Boxed.put (W := ((W.setCell ⟨w.heap.size, 0, none⟩ (Value.slice none 0 0)).setCell ⟨w.heap.size + 1, 0, none⟩ (.int .i64 (faultOf (partsB s)))).drew) (D := w.heap.size + 5) ((Boxed.far (p := ⟨w.heap.size, 0, none⟩) hr1 (by simp) (Value.slice none 0 0)).set (.int .i64 (faultOf (partsB s)))) (by omega) (.deferred none)).cell
      have hbd : Below w.heap.size w ((W.setCell ⟨w.heap.size, 0, none⟩ (Value.slice none 0 0)).setCell ⟨w.heap.size + 1, 0, none⟩ (.int .i64 (faultOf (partsB s)))).drew :=
        ((hB.setCell (p := ⟨w.heap.size, 0, none⟩) (Nat.le_refl _) (Value.slice none 0 0)).setCell (p := ⟨w.heap.size + 1, 0, none⟩) (Nat.le_succ _) (.int .i64 (faultOf (partsB s)))).drew
      have hbf := (but_put ((W.setCell ⟨w.heap.size, 0, none⟩ (Value.slice none 0 0)).setCell ⟨w.heap.size + 1, 0, none⟩ (.int .i64 (faultOf (partsB s)))).drew (w.heap.size + 5) (.deferred none)).below (n := w.heap.size) (w := w)
        hbd (by have := hr0.lt; simp; omega) (by rintro k rfl; omega)
      obtain ⟨Wf, hWf⟩ : ∃ Wf, (((W.setCell ⟨w.heap.size, 0, none⟩ (Value.slice none 0 0)).setCell ⟨w.heap.size + 1, 0, none⟩ (.int .i64 (faultOf (partsB s)))).drew.putObj (w.heap.size + 5) (.deferred none)) = Wf := ⟨_, rfl⟩
      rw [hWf] at e0 e1 hbf ⊢
      rw [splitV_bad hle hf0]
      rw [faultOf_bad hf0] at e1
      exact ⟨.tuple #[Value.slice none 0 0, .int .i64 31], by simp [results, Tryz.results125, go_sem, e0, e1], _, rfl, World.ownsRow_nil _ _ _ _, hbf⟩
  case stop =>
    intro W ⟨hr0, hr1, h16, hB⟩ hK
    simp only [hsz] at hK ⊢
    have h0c := hr0.cell
    have h0f := hr0.frozen
    have h1c := hr1.cell
    have h1f := hr1.frozen
    gi_wp2_with fail
    refine ⟨by simp, .inl ⟨_, _, rfl, run_takeDeferred hK, ?_⟩⟩
    have e0 := (Boxed.put (D := w.heap.size + 5) hr0 (by omega) (.deferred none)).cell
    have e1 := (Boxed.put (D := w.heap.size + 5) hr1 (by omega) (.deferred none)).cell
    have hbf := (but_put W (w.heap.size + 5) (.deferred none)).below (n := w.heap.size) (w := w) hB (by have := hr0.lt; omega) (by rintro k rfl; omega)
    obtain ⟨Wf, hWf⟩ : ∃ Wf, (W.putObj (w.heap.size + 5) (.deferred none)) = Wf := ⟨_, rfl⟩
    rw [hWf] at e0 e1 hbf ⊢
    rw [splitV_deep h16]
    exact ⟨.tuple #[Value.slice none 0 0, .int .i64 33], by simp [results, Tryz.results125, go_sem, e0, e1], _, rfl, World.ownsRow_nil _ _ _ _, hbf⟩
theorem short_fin (w : World) (r : Int) : ((w.alloc (Obj.cells #[Value.slice none 0 0] 141)).alloc (Obj.cells #[Value.int IntKind.i64 r] 25)).cell? ⟨w.heap.size, 0, none⟩ = some (.slice none 0 0) ∧ ((w.alloc (Obj.cells #[Value.slice none 0 0] 141)).alloc (Obj.cells #[Value.int IntKind.i64 r] 25)).cell? ⟨w.heap.size + 1, 0, none⟩ = some (.int .i64 r) ∧ Below w.heap.size w ((w.alloc (Obj.cells #[Value.slice none 0 0] 141)).alloc (Obj.cells #[Value.int IntKind.i64 r] 25)) := by
  refine ⟨((Boxed.new w 141 (.slice none 0 0)).alloc _).cell, ?_, ((Below.refl _ w).alloc (Nat.le_refl _) _).alloc (by simp) _⟩
  have := (Boxed.new (w.alloc (Obj.cells #[Value.slice none 0 0] 141)) 25 (.int .i64 r)).cell
  rwa [World.size_alloc] at this
theorem split_short (s : ByteArray) (r : Int) (w : World)
    (h : (s.toList.isEmpty = true ∧ r = 32) ∨ (∃ hs : 0 < s.size, (s[0]'hs) ≠ 47 ∧ (s.toList == []) = false ∧ r = 32) ∨ ((s.toList == []) = false ∧ (s.toList == [47]) = true ∧ (∃ hs : 0 < s.size, (s[0]'hs) = 47) ∧ r = 0)) :
    Calls Tryz.prog 125 #[.string s] w fun e w' => ∃ v0_ : Value, e = .returned (.tuple #[v0_, .int .i64 r]) ∧ w'.ownsRow w.heap.size 9 1 v0_ 0 [] ∧ Below w.heap.size w w' := by
  refine (callsIn_wide (n := 9)).1 ?_
  refine callsIn_of_wp Tryz.func125 rfl trivial ?_
  simp only [Tryz.ntmps125, List.size_toArray, List.length_cons, List.length_nil, Nat.reduceAdd, Nat.reduceSub, Array.replicate_succ, Array.replicate_zero, List.push_toArray, List.append_toArray, List.nil_append, List.cons_append]
  rcases h with ⟨h1, rfl⟩ | ⟨hs, hb, h1, rfl⟩ | ⟨h1, h2, ⟨hs, hb⟩, rfl⟩
  · have h2 : (s.toList == []) = true := by simpa using h1
    gi_wp2_with fail
    obtain ⟨c0, c1, hb⟩ := short_fin w 32
    exact bodyPost_ret (v := .tuple #[.slice none 0 0, .int .i64 32]) (by simp [results, Tryz.results125, go_sem, c0, c1]) rfl ⟨_, rfl, World.ownsRow_nil _ _ _ _, hb⟩
  · have hb2 : (((s[0]'hs).toNat : Int) != 47) = true := by
      have h47 : ¬ (s[0]'hs).toNat = 47 := fun e => hb (UInt8.toNat_inj.1 e)
      simp; omega
    gi_wp2_with fail
    obtain ⟨c0, c1, hb⟩ := short_fin w 32
    exact bodyPost_ret (v := .tuple #[.slice none 0 0, .int .i64 32]) (by simp [results, Tryz.results125, go_sem, c0, c1]) rfl ⟨_, rfl, World.ownsRow_nil _ _ _ _, hb⟩
  · gi_wp2_with fail
    obtain ⟨c0, c1, hb⟩ := short_fin w 0
    exact bodyPost_ret (v := .tuple #[.slice none 0 0, .int .i64 0]) (by simp [results, Tryz.results125, go_sem, c0, c1]) rfl ⟨_, rfl, World.ownsRow_nil _ _ _ _, hb⟩
theorem names_Split.calls (a0 : ByteArray) (r1 : List ByteArray) (r2 : Int) (w : World) (h : names_Split.f a0 = some (r1, r2)) :
    Calls Tryz.prog 125 #[.string a0] w fun e w' => ∃ v0_ : Value, e = .returned (.tuple #[v0_, .int .i64 r2]) ∧ w'.ownsRow w.heap.size 9 1 v0_ r1.length (r1.map Value.string) ∧ Below w.heap.size w w' := by
  unfold names_Split.f at h
  have h := Option.some.inj h
  have hlist : a0.toList = a0.data.toList := by simp [ByteArray.toList_eq]
  have short : ∀ r : Int, ([], r) = (r1, r2) → ((a0.toList.isEmpty = true ∧ r = 32) ∨ (∃ hs : 0 < a0.size, (a0[0]'hs) ≠ 47 ∧ (a0.toList == []) = false ∧ r = 32) ∨ ((a0.toList == []) = false ∧ (a0.toList == [47]) = true ∧ (∃ hs : 0 < a0.size, (a0[0]'hs) = 47) ∧ r = 0)) →
      Calls Tryz.prog 125 #[.string a0] w fun e w' => ∃ v0_ : Value, e = .returned (.tuple #[v0_, .int .i64 r2]) ∧ w'.ownsRow w.heap.size 9 1 v0_ r1.length (r1.map Value.string) ∧ Below w.heap.size w w' := by
    intro r hr hh
    obtain ⟨rfl, rfl⟩ := Prod.mk.inj hr
    refine (split_short a0 r w hh).mono ?_
    rintro e w' ⟨v, he, ho, hb⟩
    exact ⟨v, he, ho, hb⟩
  cases hl : a0.data.toList with
  | nil =>
    rw [hl] at h
    exact short 32 (by simpa using h) (.inl ⟨by rw [hlist, hl]; rfl, rfl⟩)
  | cons c t =>
    have hs : 0 < a0.size := by have e : a0.size = a0.data.toList.length := by simp [← ByteArray.size_data]
                                rw [e, hl]; simp
    have hc : a0[0]'hs = c := by
      have : a0.data.toList[0]? = some c := by rw [hl]; rfl
      have h2 : a0.data[0]? = some c := by simpa using this
      obtain ⟨_, h3⟩ := Array.getElem?_eq_some_iff.1 h2
      exact h3
    have hne : (a0.toList == []) = false := by rw [hlist, hl]; rfl
    by_cases h47 : c = 47
    · subst h47
      by_cases ht : t = []
      · subst ht
        rw [hl] at h
        exact short 0 (by simpa using h) (.inr (.inr ⟨hne, by rw [hlist, hl]; rfl, ⟨hs, hc⟩, rfl⟩))
      · rw [hl] at h
        have h2 : splitV a0 = (r1, r2) := by simpa [ht] using h
        have := split_main a0 hne (by rw [hlist, hl]; simpa using ht) hs hc w
        rw [h2] at this
        refine this.mono ?_
        rintro e w' ⟨v, he, ho, hb⟩
        exact ⟨v, he, ho, hb⟩
    · rw [hl] at h
      exact short 32 (by simpa [h47] using h) (.inr (.inl ⟨hs, by rw [hc]; exact h47, hne, rfl⟩))
end Go.Proofs.YtfolhmlldoepfaaGreatDoor.Nm
namespace Go.Proofs.YtfolhmlldoepfaaGreatDoor
open Go Go.Proofs Go.RowKit
set_option maxRecDepth 4000
def strE : Elem ByteArray where
  sz := 1
  pos := by decide
  enc k := [.string k]
  len _ := rfl
  one t v hv := by
    simp at hv
    subst hv
    rfl
theorem toList_inj {a b : ByteArray} (h : a.toList = b.toList) : a = b := by
  rw [ByteArray.toList_eq, ByteArray.toList_eq] at h
  cases a; cases b
  congr 1
  exact Array.toList_inj.1 h
theorem but_of_below {w w' : World} (h : Below w.heap.size w w') : But w w' nowhere := ⟨h.os, h.tape, h.output, h.size, fun k hk _ => h.block k hk⟩
/-- What Split answers. -/
def spl (s : ByteArray) : List ByteArray × Int := if s.data.toList.head? ≠ some 47 then ([], 32) else if s.data.toList = [47] then ([], 0) else Nm.splitV s
theorem check_reads (s : ByteArray) (w : World) : Calls Tryz.prog 124 [Value.string s].toArray w (fun en w' => en = .returned (.int .i64 (Nm.checkV s)) ∧ But w w' nowhere) :=
  (Nm.names_Check.calls s _ w rfl).mono fun e w' ⟨h1, h2⟩ => ⟨h1, but_of_below h2⟩
theorem St.rowV_shapeT {X : Type} {E : Elem X} {T : Nat} {v : Value} {xs : List X} {w w0 : World} {F0 : Nat → Prop} {L : List Asn} (h : St w0 F0 (RowV E T v xs :: L) w) : ∃ a c, v = .slice a xs.length c := by
  obtain ⟨a, c, e, _⟩ := h.rdRowV .head
  exact ⟨a, c, e⟩
theorem split_makes (s : ByteArray) (w : World) : Makes Tryz.prog 125 [.string s] w (fun u M => ∃ sl : SlV, u = .tuple #[sl.v, .int .i64 (spl s).2] ∧ sl.len = (spl s).1.length ∧ M = [RowV strE 9 sl.v (spl s).1]) := by
  refine (Nm.names_Split.calls s (spl s).1 (spl s).2 w rfl).mono ?_
  rintro e w' ⟨v, rfl, ho, hb⟩
  have hrow := RowV.of_owns (E := strE) (xs := (spl s).1) (Nm.own_weaken ho (Nat.zero_le _)) (fun i x hx j u hj => by
    have hj0 : j = 0 := by
      have := (List.getElem?_eq_some_iff.1 hj).1
      have h1 : j < 1 := this
      omega
    subst hj0
    obtain rfl : Value.string x = u := by simpa [strE] using hj
    show ((spl s).1.map Value.string)[i * 1 + 0]? = _
    rw [Nat.mul_one, Nat.add_zero, List.getElem?_map, hx]
    rfl)
  have hst : St w nowhere [RowV strE 9 v (spl s).1] w' := st_one hrow (but_of_below hb) (fun x hx => .inr (Nm.own_base ho x hx))
  obtain ⟨a, c, rfl⟩ := St.rowV_shapeT hst
  exact ⟨_, _, rfl, ⟨⟨a, _, c⟩, rfl, rfl, rfl⟩, hst⟩
end Go.Proofs.YtfolhmlldoepfaaGreatDoor
