import Derived.Test.YtccddkkijhedhaaDoorAll
namespace Go.Proofs.YtccddkkijhedhaaDoor
open Go.RowKit

/-- The table lies as it was laid. -/
structure Tied (w : World) : Prop where
  c : ∀ i v, [0, 16777216, 0, 16777216, 0, 20, 1, 1048576][i]? = some v → w.cell? ⟨0, i, none⟩ = some (.int .i64 v)

theorem Tied.below {w w' : World} (h : Tied w) (hb : Below w.heap.size w w') : Tied w' :=
  ⟨fun i v e => by
    have h0 := h.c i v e
    exact (hb.cell (p := ⟨0, i, none⟩) (World.block_lt_of_cell? w _ h0)).trans h0⟩

theorem cellB {w w' : World} {a : Addr} {v : Value} (hb : Below w.heap.size w w') (h : w.cell? a = some v) : w'.cell? a = some v :=
  (hb.cell (p := a) (World.block_lt_of_cell? w _ h)).trans h

theorem _root_.Go.RowKit.Below.thenB {w w1 w2 : World} (h : Below w.heap.size w w1) (k : Below w1.heap.size w1 w2) : Below w.heap.size w w2 := h.trans (k.mono h.size)
theorem _root_.Go.RowKit.Below.allocB {w w1 : World} (h : Below w.heap.size w w1) (o : Obj) : Below w.heap.size w (w1.alloc o) := h.alloc h.size o

set_option maxHeartbeats 400000 in
theorem span_any (a b c : Int) (w : World) :
    Calls Tryd.prog 29 #[.agg #[.int .i64 a, .int .i64 b, .int .i64 c]] w fun e w' => e = .returned (.agg #[.int .i64 a, .int .i64 c]) ∧ Below w.heap.size w w' := by
  go_enter Tryd.func29, Tryd.ntmps29
  go_wp2
  exact bodyPost_ret (v := .agg #[.int .i64 a, .int .i64 c]) (by simp [results, Tryd.results29, go_sem]) rfl ⟨rfl, (((Below.refl _ _).alloc (Nat.le_refl _) _).alloc (by simp) _)⟩

theorem all3_any (x0 l0 m0 x1 l1 m1 x2 l2 m2 : Int) (w : World) :
    Calls Tryd.prog 31 #[.slice (some ⟨w.heap.size, 0, none⟩) 3 3] (w.alloc (.cells #[.int .i64 x0, .func (.func 32) #[.agg #[.int .i64 l0, .int .i64 m0]] #[], .int .i64 x1, .func (.func 32) #[.agg #[.int .i64 l1, .int .i64 m1]] #[], .int .i64 x2, .func (.func 32) #[.agg #[.int .i64 l2, .int .i64 m2]] #[]] 53)) fun e w' => e = .returned (.bool (inRow l0 m0 x0 && inRow l1 m1 x1 && inRow l2 m2 x2)) ∧ Below (w.alloc (.cells #[.int .i64 x0, .func (.func 32) #[.agg #[.int .i64 l0, .int .i64 m0]] #[], .int .i64 x1, .func (.func 32) #[.agg #[.int .i64 l1, .int .i64 m1]] #[], .int .i64 x2, .func (.func 32) #[.agg #[.int .i64 l2, .int .i64 m2]] #[]] 53)).heap.size (w.alloc (.cells #[.int .i64 x0, .func (.func 32) #[.agg #[.int .i64 l0, .int .i64 m0]] #[], .int .i64 x1, .func (.func 32) #[.agg #[.int .i64 l1, .int .i64 m1]] #[], .int .i64 x2, .func (.func 32) #[.agg #[.int .i64 l2, .int .i64 m2]] #[]] 53)) w' := by
  refine (all_any 3 w.heap.size [(x0, l0, m0), (x1, l1, m1), (x2, l2, m2)] _ rfl (by omega) ?_ ?_).mono ?_
  · intro i hi
    match i, hi with
    | 0, _ => go_simp
    | 1, _ => go_simp
    | 2, _ => go_simp
  · intro i hi
    match i, hi with
    | 0, _ => go_simp
    | 1, _ => go_simp
    | 2, _ => go_simp
  · rintro e w' ⟨rfl, hb⟩
    exact ⟨by simp [Bool.and_assoc], hb⟩

theorem all4_any (x0 l0 m0 x1 l1 m1 x2 l2 m2 x3 l3 m3 : Int) (w : World) :
    Calls Tryd.prog 31 #[.slice (some ⟨w.heap.size, 0, none⟩) 4 4] (w.alloc (.cells #[.int .i64 x0, .func (.func 32) #[.agg #[.int .i64 l0, .int .i64 m0]] #[], .int .i64 x1, .func (.func 32) #[.agg #[.int .i64 l1, .int .i64 m1]] #[], .int .i64 x2, .func (.func 32) #[.agg #[.int .i64 l2, .int .i64 m2]] #[], .int .i64 x3, .func (.func 32) #[.agg #[.int .i64 l3, .int .i64 m3]] #[]] 53)) fun e w' => e = .returned (.bool (inRow l0 m0 x0 && inRow l1 m1 x1 && inRow l2 m2 x2 && inRow l3 m3 x3)) ∧ Below (w.alloc (.cells #[.int .i64 x0, .func (.func 32) #[.agg #[.int .i64 l0, .int .i64 m0]] #[], .int .i64 x1, .func (.func 32) #[.agg #[.int .i64 l1, .int .i64 m1]] #[], .int .i64 x2, .func (.func 32) #[.agg #[.int .i64 l2, .int .i64 m2]] #[], .int .i64 x3, .func (.func 32) #[.agg #[.int .i64 l3, .int .i64 m3]] #[]] 53)).heap.size (w.alloc (.cells #[.int .i64 x0, .func (.func 32) #[.agg #[.int .i64 l0, .int .i64 m0]] #[], .int .i64 x1, .func (.func 32) #[.agg #[.int .i64 l1, .int .i64 m1]] #[], .int .i64 x2, .func (.func 32) #[.agg #[.int .i64 l2, .int .i64 m2]] #[], .int .i64 x3, .func (.func 32) #[.agg #[.int .i64 l3, .int .i64 m3]] #[]] 53)) w' := by
  refine (all_any 4 w.heap.size [(x0, l0, m0), (x1, l1, m1), (x2, l2, m2), (x3, l3, m3)] _ rfl (by omega) ?_ ?_).mono ?_
  · intro i hi
    match i, hi with
    | 0, _ => go_simp
    | 1, _ => go_simp
    | 2, _ => go_simp
    | 3, _ => go_simp
  · intro i hi
    match i, hi with
    | 0, _ => go_simp
    | 1, _ => go_simp
    | 2, _ => go_simp
    | 3, _ => go_simp
  · rintro e w' ⟨rfl, hb⟩
    exact ⟨by simp [Bool.and_assoc], hb⟩

set_option maxHeartbeats 4000000 in
theorem paramsMay_any (a b c : Int) (w : World) (hG : Tied w) :
    Calls Tryd.prog 25 #[.agg #[.int .i64 a, .int .i64 b, .int .i64 c]] w fun e w' => e = .returned (.bool (inRow 1 1048576 a && inRow 1 1048576 c && inRow a c b)) ∧ Below w.heap.size w w' := by
  have g6 := hG.c 6 1 rfl
  have g7 := hG.c 7 1048576 rfl
  clear hG
  have h0 : 0 < w.heap.size := World.block_lt_of_cell? w _ g6
  go_enter Tryd.func25, Tryd.ntmps25
  go_wp2
  have c0 : (w.alloc (.cells #[.int .i64 a, .int .i64 b, .int .i64 c] 23)).cell? ⟨w.heap.size, 0, none⟩ = some (.int .i64 a) := by go_simp
  have c1 : (w.alloc (.cells #[.int .i64 a, .int .i64 b, .int .i64 c] 23)).cell? ⟨w.heap.size, 1, none⟩ = some (.int .i64 b) := by go_simp
  have c2 : (w.alloc (.cells #[.int .i64 a, .int .i64 b, .int .i64 c] 23)).cell? ⟨w.heap.size, 2, none⟩ = some (.int .i64 c) := by go_simp
  have k6 : (w.alloc (.cells #[.int .i64 a, .int .i64 b, .int .i64 c] 23)).cell? ⟨0, 6, none⟩ = some (.int .i64 1) := by go_simp
  have k7 : (w.alloc (.cells #[.int .i64 a, .int .i64 b, .int .i64 c] 23)).cell? ⟨0, 7, none⟩ = some (.int .i64 1048576) := by go_simp
  have hB : Below w.heap.size w (w.alloc (.cells #[.int .i64 a, .int .i64 b, .int .i64 c] 23)) := (Below.refl _ _).alloc (Nat.le_refl _) _
  have hz : w.heap.size < (w.alloc (.cells #[.int .i64 a, .int .i64 b, .int .i64 c] 23)).heap.size := by simp
  clear g6 g7
  generalize w.alloc (.cells #[.int .i64 a, .int .i64 b, .int .i64 c] 23) = w1 at *
  have keepS : ∀ W W' : World, Below W.heap.size W W' → (W.cell? ⟨w.heap.size, 0, none⟩ = some (.int .i64 a) ∧ W.cell? ⟨w.heap.size, 1, none⟩ = some (.int .i64 b) ∧ W.cell? ⟨w.heap.size, 2, none⟩ = some (.int .i64 c)
     ∧ W.cell? ⟨0, 6, none⟩ = some (.int .i64 1) ∧ W.cell? ⟨0, 7, none⟩ = some (.int .i64 1048576)) → (W'.cell? ⟨w.heap.size, 0, none⟩ = some (.int .i64 a) ∧ W'.cell? ⟨w.heap.size, 1, none⟩ = some (.int .i64 b) ∧ W'.cell? ⟨w.heap.size, 2, none⟩ = some (.int .i64 c)
     ∧ W'.cell? ⟨0, 6, none⟩ = some (.int .i64 1) ∧ W'.cell? ⟨0, 7, none⟩ = some (.int .i64 1048576)) := fun W W' hb ⟨h1, h2, h3, h4, h5⟩ => ⟨cellB hb h1, cellB hb h2, cellB hb h3, cellB hb h4, cellB hb h5⟩
  have KS := Lib.hid keepS
  clear keepS
  go_region_held3 (fun W => W.cell? ⟨w.heap.size, 0, none⟩ = some (.int .i64 a) ∧ W.cell? ⟨w.heap.size, 1, none⟩ = some (.int .i64 b) ∧ W.cell? ⟨w.heap.size, 2, none⟩ = some (.int .i64 c)
     ∧ W.cell? ⟨0, 6, none⟩ = some (.int .i64 1) ∧ W.cell? ⟨0, 7, none⟩ = some (.int .i64 1048576)) (first | go_keep | (exact KS.out _ _ (by assumption) (by assumption)) | (exact KS.out _ _ (by assumption) ⟨by assumption, by assumption, by assumption, by assumption, by assumption⟩))
    (first | (go_at_call 29; refine (span_any _ _ _ _).mono ?_; rintro e w2 ⟨rfl, hb2⟩) | (go_at_call 31; refine (all3_any _ _ _ _ _ _ _ _ _ _).mono ?_; rintro e w3 ⟨rfl, hb3⟩))
  all_goals (go_wp2; go_ret; exact ⟨rfl, hB.drew.thenB hb2 |>.allocB _ |>.thenB hb3⟩)
end Go.Proofs.YtccddkkijhedhaaDoor
