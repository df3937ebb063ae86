import Derived.Test.YtccddkkijhedhaaDoorSam
namespace Go.Proofs.YtccddkkijhedhaaDoor
open Go.RowKit

def rto_paramsMay.f (a b c : Int) : Option Bool := some (pmB a b c)
theorem rto_paramsMay.calls (a b c : Int) (r : Bool) (w : World) (hG : Tied w) (h : rto_paramsMay.f a b c = some r) :
    Calls Tryd.prog 25 #[.agg #[.int .i64 a, .int .i64 b, .int .i64 c]] w fun e w' => e = .returned (.bool r) ∧ Below w.heap.size w w' := by
  obtain rfl := Option.some.inj h
  exact pm_any a b c w hG
def rto_may.f (a b c s8 v4 rto sh : Int) (kn : Bool) : Option Bool := some (mayB a b c s8 v4 rto sh kn)
theorem rto_may.calls (a b c s8 v4 rto sh : Int) (kn : Bool) (r : Bool) (w : World) (hG : Tied w) (h : rto_may.f a b c s8 v4 rto sh kn = some r) :
    Calls Tryd.prog 27 #[.agg #[.int .i64 a, .int .i64 b, .int .i64 c], .agg #[.int .i64 s8, .int .i64 v4, .int .i64 rto, .int .i64 sh, .bool kn]] w fun e w' => e = .returned (.bool r) ∧ Below w.heap.size w w' := by
  obtain rfl := Option.some.inj h
  exact mayB_any a b c s8 v4 rto sh kn w hG

set_option maxHeartbeats 1000000 in
theorem sample_no (a b c s8 v4 rto sh t : Int) (kn : Bool) (w : World) (hG : Tied w) (h : mayB a b c s8 v4 rto sh kn = false) :
    Calls Tryd.prog 17 #[.agg #[.int .i64 a, .int .i64 b, .int .i64 c], .agg #[.int .i64 s8, .int .i64 v4, .int .i64 rto, .int .i64 sh, .bool kn], .int .i64 t] w fun e w' => e = .returned (.agg #[.int .i64 0, .int .i64 0, .int .i64 0, .int .i64 0, .bool false]) ∧ Below w.heap.size w w' := by
  have hb0 : Below w.heap.size w (((w.alloc (.cells #[.int .i64 a, .int .i64 b, .int .i64 c] 23)).alloc (.cells #[.int .i64 s8, .int .i64 v4, .int .i64 rto, .int .i64 sh, .bool kn] 26)).alloc (.cells #[.int .i64 0, .int .i64 0, .int .i64 0, .int .i64 0, .bool false] 26)) := (((Below.refl _ _).allocB _).allocB _).allocB _
  have hG' := hG.below hb0
  have c27 := mayB_any a b c s8 v4 rto sh kn _ hG'
  rw [h] at c27
  have C := Lib.hid c27
  clear c27 h
  go_enter Tryd.func17, Tryd.ntmps17
  go_wp2_with (go_at_call 27; refine C.out.mono ?_; rintro e w1 ⟨rfl, hb1⟩; obtain ⟨hc, hf⟩ := bcell hb1)
  have hb := hb0.thenB hb1
  refine bodyPost_ret (v := .agg #[.int .i64 0, .int .i64 0, .int .i64 0, .int .i64 0, .bool false]) (by simp [results, Tryd.results17, go_sem, hc]) rfl ⟨rfl, ?_⟩
  exact (((((hb.setCell (p := ⟨w.heap.size + 1 + 1, 0, none⟩) (by simp <;> omega) _).setCell (p := ⟨w.heap.size + 1 + 1, 1, none⟩) (by simp <;> omega) _).setCell (p := ⟨w.heap.size + 1 + 1, 2, none⟩) (by simp <;> omega) _).setCell (p := ⟨w.heap.size + 1 + 1, 3, none⟩) (by simp <;> omega) _).setCell (p := ⟨w.heap.size + 1 + 1, 4, none⟩) (by simp <;> omega) _)

def rto_Sample.f (a b c s8 v4 rto sh : Int) (kn : Bool) (t : Int) : Option (Int × Int × Int × Int × Bool) :=
  some (if mayB a b c s8 v4 rto sh kn then (S8 s8 kn (clampR 1 1048576 t), V4 s8 v4 kn (clampR 1 1048576 t), clampR a c (S8 s8 kn (clampR 1 1048576 t) / 8 + max 1 (V4 s8 v4 kn (clampR 1 1048576 t))), 0, true) else (0, 0, 0, 0, false))
theorem rto_Sample.calls (a b c s8 v4 rto sh : Int) (kn : Bool) (t r1 r2 r3 r4 : Int) (r5 : Bool) (w : World) (hG : Tied w) (h : rto_Sample.f a b c s8 v4 rto sh kn t = some (r1, r2, r3, r4, r5)) :
    Calls Tryd.prog 17 #[.agg #[.int .i64 a, .int .i64 b, .int .i64 c], .agg #[.int .i64 s8, .int .i64 v4, .int .i64 rto, .int .i64 sh, .bool kn], .int .i64 t] w fun e w' => e = .returned (.agg #[.int .i64 r1, .int .i64 r2, .int .i64 r3, .int .i64 r4, .bool r5]) ∧ Below w.heap.size w w' := by
  have h := Option.some.inj h
  by_cases hm : mayB a b c s8 v4 rto sh kn = true
  · rw [if_pos hm] at h
    simp only [Prod.mk.injEq] at h
    obtain ⟨rfl, rfl, rfl, rfl, rfl⟩ := h
    cases kn
    · exact sample_first a b c s8 v4 rto sh t w hG hm
    · exact sample_known a b c s8 v4 rto sh t w hG hm
  · rw [if_neg hm] at h
    simp only [Prod.mk.injEq] at h
    obtain ⟨rfl, rfl, rfl, rfl, rfl⟩ := h
    exact sample_no a b c s8 v4 rto sh t kn w hG (by simpa using hm)
end Go.Proofs.YtccddkkijhedhaaDoor
