import Derived.Test.YtccddkkijhedhaaDoorMay
namespace Go.Proofs.YtccddkkijhedhaaDoor
open Go.RowKit

def pmB (a b c : Int) : Bool := inRow 1 1048576 a && inRow 1 1048576 c && inRow a c b
def mayB (a b c s8 v4 rto sh : Int) (kn : Bool) : Bool :=
  pmB a b c && (kn || (s8 == 0 && v4 == 0)) && (inRow 0 16777216 s8 && inRow 0 16777216 v4 && inRow a c rto && inRow 0 20 sh)

theorem pm_any (a b c : Int) (w : World) (hG : Tied w) :
    Calls Tryd.prog 25 #[.agg #[.int .i64 a, .int .i64 b, .int .i64 c]] w fun e w' => e = .returned (.bool (pmB a b c)) ∧ Below w.heap.size w w' := paramsMay_any a b c w hG

theorem bcell {W w1 : World} (hb : Below W.heap.size W w1) : (∀ b o, b < W.heap.size → w1.cell? ⟨b, o, none⟩ = W.cell? ⟨b, o, none⟩) ∧ (∀ b o, b < W.heap.size → w1.frozen? ⟨b, o, none⟩ = W.frozen? ⟨b, o, none⟩) :=
  ⟨fun b o h => hb.cell (p := ⟨b, o, none⟩) h, fun b o h => hb.frozen (p := ⟨b, o, none⟩) h⟩

set_option maxHeartbeats 400000 in
theorem may_no (a b c s8 v4 rto sh : Int) (kn : Bool) (w : World) (hG : Tied w) (h : (pmB a b c && (kn || (s8 == 0 && v4 == 0))) = false) :
    Calls Tryd.prog 27 #[.agg #[.int .i64 a, .int .i64 b, .int .i64 c], .agg #[.int .i64 s8, .int .i64 v4, .int .i64 rto, .int .i64 sh, .bool kn]] w fun e w' => e = .returned (.bool false) ∧ Below w.heap.size w w' := by
  have hb0 : Below w.heap.size w ((w.alloc (.cells #[.int .i64 a, .int .i64 b, .int .i64 c] 23)).alloc (.cells #[.int .i64 s8, .int .i64 v4, .int .i64 rto, .int .i64 sh, .bool kn] 26)) := ((Below.refl _ _).allocB _).allocB _
  have hG' := hG.below hb0
  have c25 := pm_any a b c _ hG'
  by_cases hp : pmB a b c = true
  · rw [hp] at c25
    rw [hp, Bool.true_and] at h
    have hk : kn = false := by cases kn <;> simp_all
    subst hk
    by_cases h8 : s8 = 0
    · have h4 : v4 ≠ 0 := by simpa [h8] using h
      have h4' : (v4 != 0) = true := by simpa using h4
      have h8' : (s8 != 0) = false := by simpa using h8
      have C := Lib.hid c25
      clear h h4 h8 c25 hp
      go_enter Tryd.func27, Tryd.ntmps27
      go_wp2_with (go_at_call 25; refine C.out.mono ?_; rintro e w' ⟨rfl, hb1⟩; obtain ⟨hc, hf⟩ := bcell hb1)
      go_ret
      exact ⟨rfl, hb0.thenB hb1⟩
    · have h8' : (s8 != 0) = true := by simpa using h8
      have C := Lib.hid c25
      clear h h8 c25 hp
      go_enter Tryd.func27, Tryd.ntmps27
      go_wp2_with (go_at_call 25; refine C.out.mono ?_; rintro e w' ⟨rfl, hb1⟩; obtain ⟨hc, hf⟩ := bcell hb1)
      go_ret
      exact ⟨rfl, hb0.thenB hb1⟩
  · rw [show pmB a b c = false by simpa using hp] at c25
    have C := Lib.hid c25
    clear h c25 hp
    go_enter Tryd.func27, Tryd.ntmps27
    go_wp2_with (go_at_call 25; refine C.out.mono ?_; rintro e w' ⟨rfl, hb1⟩; obtain ⟨hc, hf⟩ := bcell hb1)
    go_ret
    exact ⟨rfl, hb0.thenB hb1⟩

structure SMay (N M : Nat) (a b c s8 v4 rto sh : Int) (w : World) : Prop where
  tied : Tied w
  g0 : w.cell? ⟨N, 0, none⟩ = some (.int .i64 a)
  g1 : w.cell? ⟨N, 1, none⟩ = some (.int .i64 b)
  g2 : w.cell? ⟨N, 2, none⟩ = some (.int .i64 c)
  g3 : w.cell? ⟨M, 0, none⟩ = some (.int .i64 s8)
  g4 : w.cell? ⟨M, 1, none⟩ = some (.int .i64 v4)
  g5 : w.cell? ⟨M, 2, none⟩ = some (.int .i64 rto)
  g6 : w.cell? ⟨M, 3, none⟩ = some (.int .i64 sh)
theorem SMay.below {N M : Nat} {a b c s8 v4 rto sh : Int} {w w' : World} (h : SMay N M a b c s8 v4 rto sh w) (hb : Below w.heap.size w w') : SMay N M a b c s8 v4 rto sh w' :=
  ⟨h.tied.below hb, cellB hb h.g0, cellB hb h.g1, cellB hb h.g2, cellB hb h.g3, cellB hb h.g4, cellB hb h.g5, cellB hb h.g6⟩

set_option maxHeartbeats 4000000 in
theorem may_yes (a b c s8 v4 rto sh : Int) (kn : Bool) (w : World) (hG : Tied w) (h : (pmB a b c && (kn || (s8 == 0 && v4 == 0))) = true) :
    Calls Tryd.prog 27 #[.agg #[.int .i64 a, .int .i64 b, .int .i64 c], .agg #[.int .i64 s8, .int .i64 v4, .int .i64 rto, .int .i64 sh, .bool kn]] w fun e w' => e = .returned (.bool (inRow 0 16777216 s8 && inRow 0 16777216 v4 && inRow a c rto && inRow 0 20 sh)) ∧ Below w.heap.size w w' := by
  have hb0 : Below w.heap.size w ((w.alloc (.cells #[.int .i64 a, .int .i64 b, .int .i64 c] 23)).alloc (.cells #[.int .i64 s8, .int .i64 v4, .int .i64 rto, .int .i64 sh, .bool kn] 26)) := ((Below.refl _ _).allocB _).allocB _
  have hG' := hG.below hb0
  have c25 := pm_any a b c _ hG'
  have hp : pmB a b c = true := by revert h; cases pmB a b c <;> simp
  rw [hp] at c25
  rw [hp, Bool.true_and] at h
  have C := Lib.hid c25
  clear c25 hp
  have hcase : kn = true ∨ (kn = false ∧ (s8 != 0) = false ∧ (v4 != 0) = false) := by
    cases kn <;> simp_all
  clear h
  rcases hcase with rfl | ⟨rfl, h8, h4⟩
  all_goals
    go_enter Tryd.func27, Tryd.ntmps27
    go_wp2_with (go_at_call 25; refine C.out.mono ?_; rintro e w' ⟨rfl, hb1⟩; obtain ⟨hc, hf⟩ := bcell hb1)
    have hHeld0 : SMay w.heap.size (w.heap.size + 1) a b c s8 v4 rto sh w'.drew := ⟨(hG'.below hb1).below (Below.refl _ _).drew, (hc w.heap.size 0 (by simp <;> omega)).trans (by go_simp), (hc w.heap.size 1 (by simp <;> omega)).trans (by go_simp), (hc w.heap.size 2 (by simp <;> omega)).trans (by go_simp), (hc (w.heap.size + 1) 0 (by simp <;> omega)).trans (by go_simp), (hc (w.heap.size + 1) 1 (by simp <;> omega)).trans (by go_simp), (hc (w.heap.size + 1) 2 (by simp <;> omega)).trans (by go_simp), (hc (w.heap.size + 1) 3 (by simp <;> omega)).trans (by go_simp)⟩
    have hB : Below w.heap.size w w' := hb0.thenB hb1
    clear hc hf hb1 hG hG' hb0 C
    refine wp_region_held_drew (S := SMay w.heap.size (w.heap.size + 1) a b c s8 v4 rto sh) (by kernel_rfl) hHeld0 (fun hHeld => ?_)
    refine wpAnyH_take (i := 0) (oi := { dst := some 23, op := Op.fieldAddr 26 (Operand.tmp 3) 0, type := 0, pos := "rto.go:49", after := #[], guard := none }) (v := ?_) rfl (by kernel_rfl) (by kernel_rfl) (by kernel_rfl) (fun _ _ _ h => h) (Or.inl ⟨by rfl, ?_⟩) hHeld ?_
    rotate_left
    · (intro w hSw; clear hSw; go_simp; try with_reducible rfl)
    simp only [Act.put, List.setIfInBounds_toArray, List.set_cons_zero, List.set_cons_succ]
    refine wpAnyH_take (i := 1) (oi := { dst := some 24, op := Op.load 3 (Operand.tmp 23), type := 3, pos := "rto.go:49", after := #[{ on := 0, ground := Ground.data }], guard := none }) (v := ?_) rfl (by kernel_rfl) (by kernel_rfl) (by kernel_rfl) (fun _ _ _ h => h) (Or.inl ⟨by rfl, ?_⟩) hHeld ?_
    rotate_left
    · (intro w hSw; have g0 := hSw.g0; have g1 := hSw.g1; have g2 := hSw.g2; have g3 := hSw.g3; have g4 := hSw.g4; have g5 := hSw.g5; have g6 := hSw.g6; have t0 := hSw.tied.c 0 _ rfl; have t1 := hSw.tied.c 1 _ rfl; have t2 := hSw.tied.c 2 _ rfl; have t3 := hSw.tied.c 3 _ rfl; have t4 := hSw.tied.c 4 _ rfl; have t5 := hSw.tied.c 5 _ rfl; go_simp; try with_reducible rfl)
    simp only [Act.put, List.setIfInBounds_toArray, List.set_cons_zero, List.set_cons_succ]
    refine wpAnyH_take (i := 2) (oi := { dst := some 25, op := Op.indexAddr 47 (Operand.global 0) (Operand.const (Value.int IntKind.i64 0)), type := 0, pos := "rto.go:49", after := #[], guard := none }) (v := ?_) rfl (by kernel_rfl) (by kernel_rfl) (by kernel_rfl) (fun _ _ _ h => h) (Or.inl ⟨by rfl, ?_⟩) hHeld ?_
    rotate_left
    · (intro w hSw; clear hSw; go_simp; try with_reducible rfl)
    simp only [Act.put, List.setIfInBounds_toArray, List.set_cons_zero, List.set_cons_succ]
    refine wpAnyH_take (i := 3) (oi := { dst := some 26, op := Op.load 46 (Operand.tmp 25), type := 46, pos := "rto.go:49", after := #[{ on := 2, ground := Ground.data }], guard := none }) (v := ?_) rfl (by kernel_rfl) (by kernel_rfl) (by kernel_rfl) (fun _ _ _ h => h) (Or.inl ⟨by rfl, ?_⟩) hHeld ?_
    rotate_left
    · (intro w hSw; have g0 := hSw.g0; have g1 := hSw.g1; have g2 := hSw.g2; have g3 := hSw.g3; have g4 := hSw.g4; have g5 := hSw.g5; have g6 := hSw.g6; have t0 := hSw.tied.c 0 _ rfl; have t1 := hSw.tied.c 1 _ rfl; have t2 := hSw.tied.c 2 _ rfl; have t3 := hSw.tied.c 3 _ rfl; have t4 := hSw.tied.c 4 _ rfl; have t5 := hSw.tied.c 5 _ rfl; go_simp; try with_reducible rfl)
    simp only [Act.put, List.setIfInBounds_toArray, List.set_cons_zero, List.set_cons_succ]
    refine wpAnyH_take (i := 4) (oi := { dst := some 27, op := Op.makeFunc (Fn.func 32) #[Operand.tmp 26] #[], type := 51, pos := "rto.go:49", after := #[{ on := 3, ground := Ground.data }], guard := none }) (v := ?_) rfl (by kernel_rfl) (by kernel_rfl) (by kernel_rfl) (fun _ _ _ h => h) (Or.inl ⟨by rfl, ?_⟩) hHeld ?_
    rotate_left
    · (intro w hSw; clear hSw; go_simp; try with_reducible rfl)
    simp only [Act.put, List.setIfInBounds_toArray, List.set_cons_zero, List.set_cons_succ]
    refine wpAnyH_take (i := 5) (oi := { dst := some 28, op := Op.build 53 #[(0, Operand.tmp 24), (1, Operand.tmp 27)], type := 53, pos := "rto.go:49", after := #[{ on := 1, ground := Ground.data }, { on := 4, ground := Ground.data }], guard := none }) (v := ?_) rfl (by kernel_rfl) (by kernel_rfl) (by kernel_rfl) (fun _ _ _ h => h) (Or.inl ⟨by rfl, ?_⟩) hHeld ?_
    rotate_left
    · (intro w hSw; clear hSw; go_simp; try with_reducible rfl)
    simp only [Act.put, List.setIfInBounds_toArray, List.set_cons_zero, List.set_cons_succ]
    refine wpAnyH_take (i := 6) (oi := { dst := some 29, op := Op.fieldAddr 26 (Operand.tmp 3) 1, type := 0, pos := "rto.go:49", after := #[], guard := none }) (v := ?_) rfl (by kernel_rfl) (by kernel_rfl) (by kernel_rfl) (fun _ _ _ h => h) (Or.inl ⟨by rfl, ?_⟩) hHeld ?_
    rotate_left
    · (intro w hSw; clear hSw; go_simp; try with_reducible rfl)
    simp only [Act.put, List.setIfInBounds_toArray, List.set_cons_zero, List.set_cons_succ]
    refine wpAnyH_take (i := 7) (oi := { dst := some 30, op := Op.load 3 (Operand.tmp 29), type := 3, pos := "rto.go:49", after := #[{ on := 6, ground := Ground.data }], guard := none }) (v := ?_) rfl (by kernel_rfl) (by kernel_rfl) (by kernel_rfl) (fun _ _ _ h => h) (Or.inl ⟨by rfl, ?_⟩) hHeld ?_
    rotate_left
    · (intro w hSw; have g0 := hSw.g0; have g1 := hSw.g1; have g2 := hSw.g2; have g3 := hSw.g3; have g4 := hSw.g4; have g5 := hSw.g5; have g6 := hSw.g6; have t0 := hSw.tied.c 0 _ rfl; have t1 := hSw.tied.c 1 _ rfl; have t2 := hSw.tied.c 2 _ rfl; have t3 := hSw.tied.c 3 _ rfl; have t4 := hSw.tied.c 4 _ rfl; have t5 := hSw.tied.c 5 _ rfl; go_simp; try with_reducible rfl)
    simp only [Act.put, List.setIfInBounds_toArray, List.set_cons_zero, List.set_cons_succ]
    refine wpAnyH_take (i := 8) (oi := { dst := some 31, op := Op.indexAddr 47 (Operand.global 0) (Operand.const (Value.int IntKind.i64 1)), type := 0, pos := "rto.go:49", after := #[], guard := none }) (v := ?_) rfl (by kernel_rfl) (by kernel_rfl) (by kernel_rfl) (fun _ _ _ h => h) (Or.inl ⟨by rfl, ?_⟩) hHeld ?_
    rotate_left
    · (intro w hSw; clear hSw; go_simp; try with_reducible rfl)
    simp only [Act.put, List.setIfInBounds_toArray, List.set_cons_zero, List.set_cons_succ]
    refine wpAnyH_take (i := 9) (oi := { dst := some 32, op := Op.load 46 (Operand.tmp 31), type := 46, pos := "rto.go:49", after := #[{ on := 8, ground := Ground.data }], guard := none }) (v := ?_) rfl (by kernel_rfl) (by kernel_rfl) (by kernel_rfl) (fun _ _ _ h => h) (Or.inl ⟨by rfl, ?_⟩) hHeld ?_
    rotate_left
    · (intro w hSw; have g0 := hSw.g0; have g1 := hSw.g1; have g2 := hSw.g2; have g3 := hSw.g3; have g4 := hSw.g4; have g5 := hSw.g5; have g6 := hSw.g6; have t0 := hSw.tied.c 0 _ rfl; have t1 := hSw.tied.c 1 _ rfl; have t2 := hSw.tied.c 2 _ rfl; have t3 := hSw.tied.c 3 _ rfl; have t4 := hSw.tied.c 4 _ rfl; have t5 := hSw.tied.c 5 _ rfl; go_simp; try with_reducible rfl)
    simp only [Act.put, List.setIfInBounds_toArray, List.set_cons_zero, List.set_cons_succ]
    refine wpAnyH_take (i := 10) (oi := { dst := some 33, op := Op.makeFunc (Fn.func 32) #[Operand.tmp 32] #[], type := 51, pos := "rto.go:49", after := #[{ on := 9, ground := Ground.data }], guard := none }) (v := ?_) rfl (by kernel_rfl) (by kernel_rfl) (by kernel_rfl) (fun _ _ _ h => h) (Or.inl ⟨by rfl, ?_⟩) hHeld ?_
    rotate_left
    · (intro w hSw; clear hSw; go_simp; try with_reducible rfl)
    simp only [Act.put, List.setIfInBounds_toArray, List.set_cons_zero, List.set_cons_succ]
    refine wpAnyH_take (i := 11) (oi := { dst := some 34, op := Op.build 53 #[(0, Operand.tmp 30), (1, Operand.tmp 33)], type := 53, pos := "rto.go:49", after := #[{ on := 7, ground := Ground.data }, { on := 10, ground := Ground.data }], guard := none }) (v := ?_) rfl (by kernel_rfl) (by kernel_rfl) (by kernel_rfl) (fun _ _ _ h => h) (Or.inl ⟨by rfl, ?_⟩) hHeld ?_
    rotate_left
    · (intro w hSw; clear hSw; go_simp; try with_reducible rfl)
    simp only [Act.put, List.setIfInBounds_toArray, List.set_cons_zero, List.set_cons_succ]
    refine wpAnyH_take (i := 12) (oi := { dst := some 35, op := Op.fieldAddr 26 (Operand.tmp 3) 2, type := 0, pos := "rto.go:49", after := #[], guard := none }) (v := ?_) rfl (by kernel_rfl) (by kernel_rfl) (by kernel_rfl) (fun _ _ _ h => h) (Or.inl ⟨by rfl, ?_⟩) hHeld ?_
    rotate_left
    · (intro w hSw; clear hSw; go_simp; try with_reducible rfl)
    simp only [Act.put, List.setIfInBounds_toArray, List.set_cons_zero, List.set_cons_succ]
    refine wpAnyH_take (i := 13) (oi := { dst := some 36, op := Op.load 3 (Operand.tmp 35), type := 3, pos := "rto.go:49", after := #[{ on := 12, ground := Ground.data }], guard := none }) (v := ?_) rfl (by kernel_rfl) (by kernel_rfl) (by kernel_rfl) (fun _ _ _ h => h) (Or.inl ⟨by rfl, ?_⟩) hHeld ?_
    rotate_left
    · (intro w hSw; have g0 := hSw.g0; have g1 := hSw.g1; have g2 := hSw.g2; have g3 := hSw.g3; have g4 := hSw.g4; have g5 := hSw.g5; have g6 := hSw.g6; have t0 := hSw.tied.c 0 _ rfl; have t1 := hSw.tied.c 1 _ rfl; have t2 := hSw.tied.c 2 _ rfl; have t3 := hSw.tied.c 3 _ rfl; have t4 := hSw.tied.c 4 _ rfl; have t5 := hSw.tied.c 5 _ rfl; go_simp; try with_reducible rfl)
    simp only [Act.put, List.setIfInBounds_toArray, List.set_cons_zero, List.set_cons_succ]
    refine wpAnyH_take (i := 14) (oi := { dst := some 37, op := Op.load 23 (Operand.tmp 2), type := 23, pos := "rto.go:49", after := #[], guard := none }) (v := ?_) rfl (by kernel_rfl) (by kernel_rfl) (by kernel_rfl) (fun _ _ _ h => h) (Or.inl ⟨by rfl, ?_⟩) hHeld ?_
    rotate_left
    · (intro w hSw; have g0 := hSw.g0; have g1 := hSw.g1; have g2 := hSw.g2; have g3 := hSw.g3; have g4 := hSw.g4; have g5 := hSw.g5; have g6 := hSw.g6; have t0 := hSw.tied.c 0 _ rfl; have t1 := hSw.tied.c 1 _ rfl; have t2 := hSw.tied.c 2 _ rfl; have t3 := hSw.tied.c 3 _ rfl; have t4 := hSw.tied.c 4 _ rfl; have t5 := hSw.tied.c 5 _ rfl; go_simp; try with_reducible rfl)
    simp only [Act.put, List.setIfInBounds_toArray, List.set_cons_zero, List.set_cons_succ]
    refine wpAnyH_take (i := 18) (oi := { dst := some 41, op := Op.fieldAddr 26 (Operand.tmp 3) 3, type := 0, pos := "rto.go:49", after := #[], guard := none }) (v := ?_) rfl (by kernel_rfl) (by kernel_rfl) (by kernel_rfl) (fun _ _ _ h => h) (Or.inl ⟨by rfl, ?_⟩) hHeld ?_
    rotate_left
    · (intro w hSw; clear hSw; go_simp; try with_reducible rfl)
    simp only [Act.put, List.setIfInBounds_toArray, List.set_cons_zero, List.set_cons_succ]
    refine wpAnyH_take (i := 19) (oi := { dst := some 42, op := Op.load 3 (Operand.tmp 41), type := 3, pos := "rto.go:49", after := #[{ on := 18, ground := Ground.data }], guard := none }) (v := ?_) rfl (by kernel_rfl) (by kernel_rfl) (by kernel_rfl) (fun _ _ _ h => h) (Or.inl ⟨by rfl, ?_⟩) hHeld ?_
    rotate_left
    · (intro w hSw; have g0 := hSw.g0; have g1 := hSw.g1; have g2 := hSw.g2; have g3 := hSw.g3; have g4 := hSw.g4; have g5 := hSw.g5; have g6 := hSw.g6; have t0 := hSw.tied.c 0 _ rfl; have t1 := hSw.tied.c 1 _ rfl; have t2 := hSw.tied.c 2 _ rfl; have t3 := hSw.tied.c 3 _ rfl; have t4 := hSw.tied.c 4 _ rfl; have t5 := hSw.tied.c 5 _ rfl; go_simp; try with_reducible rfl)
    simp only [Act.put, List.setIfInBounds_toArray, List.set_cons_zero, List.set_cons_succ]
    refine wpAnyH_take (i := 20) (oi := { dst := some 43, op := Op.indexAddr 47 (Operand.global 0) (Operand.const (Value.int IntKind.i64 2)), type := 0, pos := "rto.go:49", after := #[], guard := none }) (v := ?_) rfl (by kernel_rfl) (by kernel_rfl) (by kernel_rfl) (fun _ _ _ h => h) (Or.inl ⟨by rfl, ?_⟩) hHeld ?_
    rotate_left
    · (intro w hSw; clear hSw; go_simp; try with_reducible rfl)
    simp only [Act.put, List.setIfInBounds_toArray, List.set_cons_zero, List.set_cons_succ]
    refine wpAnyH_take (i := 21) (oi := { dst := some 44, op := Op.load 46 (Operand.tmp 43), type := 46, pos := "rto.go:49", after := #[{ on := 20, ground := Ground.data }], guard := none }) (v := ?_) rfl (by kernel_rfl) (by kernel_rfl) (by kernel_rfl) (fun _ _ _ h => h) (Or.inl ⟨by rfl, ?_⟩) hHeld ?_
    rotate_left
    · (intro w hSw; have g0 := hSw.g0; have g1 := hSw.g1; have g2 := hSw.g2; have g3 := hSw.g3; have g4 := hSw.g4; have g5 := hSw.g5; have g6 := hSw.g6; have t0 := hSw.tied.c 0 _ rfl; have t1 := hSw.tied.c 1 _ rfl; have t2 := hSw.tied.c 2 _ rfl; have t3 := hSw.tied.c 3 _ rfl; have t4 := hSw.tied.c 4 _ rfl; have t5 := hSw.tied.c 5 _ rfl; go_simp; try with_reducible rfl)
    simp only [Act.put, List.setIfInBounds_toArray, List.set_cons_zero, List.set_cons_succ]
    refine wpAnyH_take (i := 22) (oi := { dst := some 45, op := Op.makeFunc (Fn.func 32) #[Operand.tmp 44] #[], type := 51, pos := "rto.go:49", after := #[{ on := 21, ground := Ground.data }], guard := none }) (v := ?_) rfl (by kernel_rfl) (by kernel_rfl) (by kernel_rfl) (fun _ _ _ h => h) (Or.inl ⟨by rfl, ?_⟩) hHeld ?_
    rotate_left
    · (intro w hSw; clear hSw; go_simp; try with_reducible rfl)
    simp only [Act.put, List.setIfInBounds_toArray, List.set_cons_zero, List.set_cons_succ]
    refine wpAnyH_take (i := 23) (oi := { dst := some 46, op := Op.build 53 #[(0, Operand.tmp 42), (1, Operand.tmp 45)], type := 53, pos := "rto.go:49", after := #[{ on := 19, ground := Ground.data }, { on := 22, ground := Ground.data }], guard := none }) (v := ?_) rfl (by kernel_rfl) (by kernel_rfl) (by kernel_rfl) (fun _ _ _ h => h) (Or.inl ⟨by rfl, ?_⟩) hHeld ?_
    rotate_left
    · (intro w hSw; clear hSw; go_simp; try with_reducible rfl)
    simp only [Act.put, List.setIfInBounds_toArray, List.set_cons_zero, List.set_cons_succ]
    refine wpAnyH_ready (rs := [15]) (by kernel_rfl) (by simp) ?_
    refine AllReadyH.cons (o := { dst := some 38, op := Op.call { callee := Callee.value (Operand.func 29), args := #[Operand.tmp 37], argTypes := #[23] }, type := 46, pos := "rto.go:49", after := #[{ on := 14, ground := Ground.data }], guard := none }) rfl (fun K hK => ?_) AllReadyH.nil
    go_simp
    refine (span_any _ _ _ _).mono ?_
    rintro e w2 ⟨rfl, hb2⟩
    refine hK.out _ _ (hHeld.below hb2) (fun hHeld => ?_)
    clear hK K
    try simp only [Act.put, List.setIfInBounds_toArray, List.set_cons_zero, List.set_cons_succ]
    refine wpAnyH_take (i := 16) (oi := { dst := some 39, op := Op.makeFunc (Fn.func 32) #[Operand.tmp 38] #[], type := 51, pos := "rto.go:49", after := #[{ on := 15, ground := Ground.data }], guard := none }) (v := ?_) rfl (by kernel_rfl) (by kernel_rfl) (by kernel_rfl) (fun _ _ _ h => h) (Or.inl ⟨by rfl, ?_⟩) hHeld ?_
    rotate_left
    · (intro w hSw; clear hSw; go_simp; try with_reducible rfl)
    simp only [Act.put, List.setIfInBounds_toArray, List.set_cons_zero, List.set_cons_succ]
    refine wpAnyH_take (i := 17) (oi := { dst := some 40, op := Op.build 53 #[(0, Operand.tmp 36), (1, Operand.tmp 39)], type := 53, pos := "rto.go:49", after := #[{ on := 13, ground := Ground.data }, { on := 16, ground := Ground.data }], guard := none }) (v := ?_) rfl (by kernel_rfl) (by kernel_rfl) (by kernel_rfl) (fun _ _ _ h => h) (Or.inl ⟨by rfl, ?_⟩) hHeld ?_
    rotate_left
    · (intro w hSw; clear hSw; go_simp; try with_reducible rfl)
    simp only [Act.put, List.setIfInBounds_toArray, List.set_cons_zero, List.set_cons_succ]
    refine wpAnyH_ready (rs := [24]) (by kernel_rfl) (by simp) ?_
    refine AllReadyH.cons (o := { dst := some 47, op := Op.buildSlice 54 4 #[(0, Operand.tmp 28), (1, Operand.tmp 34), (2, Operand.tmp 40), (3, Operand.tmp 46)], type := 54, pos := "rto.go:49", after := #[{ on := 5, ground := Ground.data }, { on := 11, ground := Ground.data }, { on := 17, ground := Ground.data }, { on := 23, ground := Ground.data }], guard := none }) rfl (fun K hK => ?_) AllReadyH.nil
    go_simp
    refine hK.out _ _ (hHeld.below ((Below.refl _ _).allocB _)) (fun hHeld => ?_)
    clear hK K
    try simp only [Act.put, List.setIfInBounds_toArray, List.set_cons_zero, List.set_cons_succ]
    refine wpAnyH_ready (rs := [25]) (by kernel_rfl) (by simp) ?_
    refine AllReadyH.cons (o := { dst := some 48, op := Op.call { callee := Callee.value (Operand.func 31), args := #[Operand.tmp 47], argTypes := #[54] }, type := 4, pos := "rto.go:49", after := #[{ on := 24, ground := Ground.data }, { on := 15, ground := Ground.chain }], guard := none }) rfl (fun K hK => ?_) AllReadyH.nil
    go_simp
    refine (all4_any _ _ _ _ _ _ _ _ _ _ _ _ _).mono ?_
    rintro e w3 ⟨rfl, hb3⟩
    refine hK.out _ _ (hHeld.below hb3) (fun hHeld => ?_)
    clear hK K
    try simp only [Act.put, List.setIfInBounds_toArray, List.set_cons_zero, List.set_cons_succ]
    refine wpAnyH_take (i := 26) (oi := { dst := some 4, op := Op.assign (Operand.tmp 48), type := 4, pos := "rto.go:49", after := #[{ on := 25, ground := Ground.data }, { on := 25, ground := Ground.chain }, { on := 0, ground := Ground.phase }, { on := 1, ground := Ground.phase }, { on := 2, ground := Ground.phase }, { on := 3, ground := Ground.phase }, { on := 4, ground := Ground.phase }, { on := 5, ground := Ground.phase }, { on := 6, ground := Ground.phase }, { on := 7, ground := Ground.phase }, { on := 8, ground := Ground.phase }, { on := 9, ground := Ground.phase }, { on := 10, ground := Ground.phase }, { on := 11, ground := Ground.phase }, { on := 12, ground := Ground.phase }, { on := 13, ground := Ground.phase }, { on := 14, ground := Ground.phase }, { on := 15, ground := Ground.phase }, { on := 16, ground := Ground.phase }, { on := 17, ground := Ground.phase }, { on := 18, ground := Ground.phase }, { on := 19, ground := Ground.phase }, { on := 20, ground := Ground.phase }, { on := 21, ground := Ground.phase }, { on := 22, ground := Ground.phase }, { on := 23, ground := Ground.phase }, { on := 24, ground := Ground.phase }, { on := 25, ground := Ground.phase }], guard := none }) (v := ?_) rfl (by kernel_rfl) (by kernel_rfl) (by kernel_rfl) (fun _ _ _ h => h) (Or.inl ⟨by rfl, ?_⟩) hHeld ?_
    rotate_left
    · (intro w hSw; clear hSw; go_simp; try with_reducible rfl)
    simp only [Act.put, List.setIfInBounds_toArray, List.set_cons_zero, List.set_cons_succ]
    refine wpAnyH_done (by kernel_rfl) ?_ _
    go_wp2
    go_ret
    exact ⟨rfl, hB.drew.thenB hb2 |>.allocB _ |>.thenB hb3⟩
theorem mayB_any (a b c s8 v4 rto sh : Int) (kn : Bool) (w : World) (hG : Tied w) :
    Calls Tryd.prog 27 #[.agg #[.int .i64 a, .int .i64 b, .int .i64 c], .agg #[.int .i64 s8, .int .i64 v4, .int .i64 rto, .int .i64 sh, .bool kn]] w fun e w' => e = .returned (.bool (mayB a b c s8 v4 rto sh kn)) ∧ Below w.heap.size w w' := by
  by_cases h : (pmB a b c && (kn || (s8 == 0 && v4 == 0))) = true
  · refine (may_yes a b c s8 v4 rto sh kn w hG h).mono ?_
    rintro e w' ⟨rfl, hb⟩
    exact ⟨by unfold mayB; rw [h]; simp, hb⟩
  · have h' : (pmB a b c && (kn || (s8 == 0 && v4 == 0))) = false := by simpa using h
    refine (may_no a b c s8 v4 rto sh kn w hG h').mono ?_
    rintro e w' ⟨rfl, hb⟩
    exact ⟨by unfold mayB; rw [h']; simp, hb⟩
end Go.Proofs.YtccddkkijhedhaaDoor
