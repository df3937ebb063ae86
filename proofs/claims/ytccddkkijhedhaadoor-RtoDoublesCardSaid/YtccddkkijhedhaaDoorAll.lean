import Derived.Test.YtccddkkijhedhaaDoorProg
import Derived.WalkKit
import Derived.WalkSpells
import Derived.WalkLawsBesides
import Derived.Deep.RegionHeld3
import Derived.Deep.DeepCutAuto
import Derived.Deep.QuietTactic
import Derived.BigQuiet
import Derived.KernelRfl
import Derived.Laws.EntriesVeiled
import Derived.Lib.Hide
namespace Go.Proofs.YtccddkkijhedhaaDoor
open Go.RowKit

def inRow (l m x : Int) : Bool := decide (l ≤ x) && decide (x ≤ m)

set_option maxHeartbeats 400000 in
theorem holds_any (l m x : Int) (w : World) :
    Calls Tryd.prog 32 #[.agg #[.int .i64 l, .int .i64 m], .int .i64 x] w fun e w' => e = .returned (.bool (inRow l m x)) ∧ Below w.heap.size w w' := by
  by_cases h : l ≤ x
  · go_enter Tryd.func32, Tryd.ntmps32
    go_wp2
    go_ret
    refine ⟨?_, (Below.refl _ _).alloc (Nat.le_refl _) _⟩
    simp [inRow, h]
  · go_enter Tryd.func32, Tryd.ntmps32
    go_wp2
    go_ret
    refine ⟨?_, (Below.refl _ _).alloc (Nat.le_refl _) _⟩
    simp [inRow]; omega

/-- What 'all' is handed. -/
theorem all_any (n : Nat) (b : Nat) (xs : List (Int × Int × Int)) (w : World) (hn : xs.length = n) (hm : n < 1000)
   (hx : ∀ i, i < n → w.cell? ⟨b, i * 2, none⟩ = some (.int .i64 (xs.getD i (0,0,0)).1))
   (hf : ∀ i, i < n → w.cell? ⟨b, i * 2 + 1, none⟩ = some (.func (.func 32) #[.agg #[.int .i64 (xs.getD i (0,0,0)).2.1, .int .i64 (xs.getD i (0,0,0)).2.2]] #[])) :
    Calls Tryd.prog 31 #[.slice (some ⟨b, 0, none⟩) n n] w fun e w' => e = .returned (.bool (xs.all fun x => inRow x.2.1 x.2.2 x.1)) ∧ Below w.heap.size w w' := by
  have HX := Lib.hid hx
  have HF := Lib.hid hf
  have HN := Lib.hid hn
  clear hx hf hn
  go_enter Tryd.func31, Tryd.ntmps31
  go_wp2
  go_loopw [4, 7] (fun _ i wr => ∃ k : Nat, k ≤ n ∧ i = .int .i64 k ∧ ((xs.take k).all fun x => inRow x.2.1 x.2.2 x.1) = true ∧ Below w.heap.size w wr) (fun _ i _ => n - (intOf i).toNat)
  case atStart => exact ⟨0, Nat.zero_le _, rfl, rfl, Below.refl _ _⟩
  case round =>
    obtain ⟨k, hk, rfl, hall, hB⟩ := hrel
    by_cases hlt : k < n
    · have hbl : b < w.heap.size := World.block_lt_of_cell? w _ (HX.out 0 (by omega))
      obtain ⟨x, hxe⟩ : ∃ x, x = xs.getD k (0,0,0) := ⟨_, rfl⟩
      have h1 : wr.cell? ⟨b, k * 2, none⟩ = some (.int .i64 x.1) := by rw [hxe]; exact (hB.cell (p := ⟨b, k * 2, none⟩) hbl).trans (HX.out k hlt)
      have h2 : wr.cell? ⟨b, k * 2 + 1, none⟩ = some (.func (.func 32) #[.agg #[.int .i64 x.2.1, .int .i64 x.2.2]] #[]) := by rw [hxe]; exact (hB.cell (p := ⟨b, k * 2 + 1, none⟩) hbl).trans (HF.out k hlt)
      have HXE := Lib.hid hxe
      clear hxe
      have hT := HN.out
      have hsn : (xs.take (k + 1)).all (fun x => inRow x.2.1 x.2.2 x.1) = inRow x.2.1 x.2.2 x.1 := by
        rw [List.take_succ_eq_append_getElem (by omega), List.all_append, hall, HXE.out]
        simp [show k < xs.length by omega]
      have HS := Lib.hid hsn
      clear hT hsn
      have HA := Lib.hid hall
      clear hall
      by_cases hv : inRow x.2.1 x.2.2 x.1 = true
      · have HV := Lib.hid hv
        go_wp2_with (go_at_call 32; refine (holds_any _ _ _ _).mono ?_; rintro e w1 ⟨rfl, hb1⟩)
        go_roundw
        case rel => exact ⟨k + 1, by omega, by go_num, by rw [HS.out]; exact HV.out, (hB.alloc hB.size _).trans (hb1.mono (by have := hB.size; simp; omega))⟩
        case measure => simp [intOf]; omega
      · have hv' : inRow x.2.1 x.2.2 x.1 = false := by simpa using hv
        clear hv
        go_wp2_with (go_at_call 32; refine (holds_any _ _ _ _).mono ?_; rintro e w1 ⟨rfl, hb1⟩)
        go_ret
        refine ⟨?_, (hB.alloc hB.size _).trans (hb1.mono (by have := hB.size; simp; omega))⟩
        have : (xs.all fun x => inRow x.2.1 x.2.2 x.1) = false := by
          rw [List.all_eq_false]
          refine ⟨x, ?_, by simp [hv']⟩
          have h3 : k < xs.length := by have := HN.out; omega
          rw [HXE.out, show xs.getD k (0, 0, 0) = xs[k] from by simp [h3]]
          exact List.getElem_mem _
        rw [this]
        rfl
    · have HA := Lib.hid hall
      clear hall
      go_wp2
      go_ret
      refine ⟨?_, hB⟩
      have := HA.out
      rw [List.take_of_length_le (by have := HN.out; omega)] at this
      rw [this]
      rfl
end Go.Proofs.YtccddkkijhedhaaDoor
