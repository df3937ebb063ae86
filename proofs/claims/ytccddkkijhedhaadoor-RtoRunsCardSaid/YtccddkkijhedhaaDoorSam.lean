import Derived.Test.YtccddkkijhedhaaDoorMay2
namespace Go.Proofs.YtccddkkijhedhaaDoor
open Go.RowKit

theorem ret_int {k : IntKind} {a b : Int} (h : a = b) : Ending.returned (.int k a) = .returned (.int k b) := by rw [h]
def clampR (l m x : Int) : Int := min (max x l) m
theorem keep_any (l m x : Int) (w : World) :
    Calls Tryd.prog 28 #[.agg #[.int .i64 l, .int .i64 m], .int .i64 x] w fun e w' => e = .returned (.int .i64 (clampR l m x)) ∧ Below w.heap.size w w' := by
  go_enter Tryd.func28, Tryd.ntmps28
  go_wp2
  all_goals (go_ret; refine ⟨ret_int ?_, (Below.refl _ _).allocB _⟩; unfold clampR; omega)

theorem inRow_iff {l m x : Int} : inRow l m x = true ↔ l ≤ x ∧ x ≤ m := by simp [inRow]
theorem mayB_bounds {a b c s8 v4 rto sh : Int} {kn : Bool} (h : mayB a b c s8 v4 rto sh kn = true) : 0 ≤ s8 ∧ s8 ≤ 16777216 ∧ 0 ≤ v4 ∧ v4 ≤ 16777216 ∧ 1 ≤ a ∧ c ≤ 1048576 := by
  simp only [mayB, pmB, Bool.and_eq_true, inRow_iff] at h
  omega
def S8 (s8 : Int) (kn : Bool) (t : Int) : Int := if kn then s8 + (t - s8 / 8) else 8 * t
def V4 (s8 v4 : Int) (kn : Bool) (t : Int) : Int := if kn then v4 + (max (t - s8 / 8) (s8 / 8 - t) - v4 / 4) else 2 * t
def sampleV (a c s8 v4 : Int) (kn : Bool) (t : Int) : Value :=
  .agg #[.int .i64 (S8 s8 kn t), .int .i64 (V4 s8 v4 kn t), .int .i64 (clampR a c (S8 s8 kn t / 8 + max 1 (V4 s8 v4 kn t))), .int .i64 0, .bool true]

structure SSam (N M R : Nat) (a b c X Y sh : Int) (kn : Bool) (w : World) : Prop where
  zr : R < w.heap.size
  ne1 : N < M
  ne2 : M < R
  g0 : w.cell? ⟨N, 0, none⟩ = some (.int .i64 a)
  g1 : w.cell? ⟨N, 1, none⟩ = some (.int .i64 b)
  g2 : w.cell? ⟨N, 2, none⟩ = some (.int .i64 c)
  m0 : w.cell? ⟨M, 0, none⟩ = some (.int .i64 X)
  m1 : w.cell? ⟨M, 1, none⟩ = some (.int .i64 Y)
  m2 : ∃ v, w.cell? ⟨M, 2, none⟩ = some (.int .i64 v)
  m3 : w.cell? ⟨M, 3, none⟩ = some (.int .i64 sh)
  m4 : w.cell? ⟨M, 4, none⟩ = some (.bool kn)
  f0 : w.frozen? ⟨M, 0, none⟩ = false
  f1 : w.frozen? ⟨M, 1, none⟩ = false
  f2 : w.frozen? ⟨M, 2, none⟩ = false
  f3 : w.frozen? ⟨M, 3, none⟩ = false
  f4 : w.frozen? ⟨M, 4, none⟩ = false
  r0 : w.cell? ⟨R, 0, none⟩ = some (.int .i64 0)
  r1 : w.cell? ⟨R, 1, none⟩ = some (.int .i64 0)
  r2 : w.cell? ⟨R, 2, none⟩ = some (.int .i64 0)
  r3 : w.cell? ⟨R, 3, none⟩ = some (.int .i64 0)
  r4 : w.cell? ⟨R, 4, none⟩ = some (.bool false)
  s0 : w.frozen? ⟨R, 0, none⟩ = false
  s1 : w.frozen? ⟨R, 1, none⟩ = false
  s2 : w.frozen? ⟨R, 2, none⟩ = false
  s3 : w.frozen? ⟨R, 3, none⟩ = false
  s4 : w.frozen? ⟨R, 4, none⟩ = false
theorem SSam.below {N M R : Nat} {a b c X Y sh : Int} {kn : Bool} {w w' : World} (h : SSam N M R a b c X Y sh kn w) (hb : Below w.heap.size w w') : SSam N M R a b c X Y sh kn w' := by
  have hz := h.zr
  have h1 := h.ne1
  have h2 := h.ne2
  have hs := hb.size
  have hc : ∀ b' o, b' ≤ R → w'.cell? ⟨b', o, none⟩ = w.cell? ⟨b', o, none⟩ := fun b' o hb' => hb.cell (p := ⟨b', o, none⟩) (by simp; omega)
  have hf : ∀ b' o, b' ≤ R → w'.frozen? ⟨b', o, none⟩ = w.frozen? ⟨b', o, none⟩ := fun b' o hb' => hb.frozen (p := ⟨b', o, none⟩) (by simp; omega)
  obtain ⟨v, hv⟩ := h.m2
  exact ⟨by omega, h1, h2, (hc _ _ (by omega)).trans h.g0, (hc _ _ (by omega)).trans h.g1, (hc _ _ (by omega)).trans h.g2, (hc _ _ (by omega)).trans h.m0, (hc _ _ (by omega)).trans h.m1, ⟨v, (hc _ _ (by omega)).trans hv⟩, (hc _ _ (by omega)).trans h.m3, (hc _ _ (by omega)).trans h.m4,
    (hf _ _ (by omega)).trans h.f0, (hf _ _ (by omega)).trans h.f1, (hf _ _ (by omega)).trans h.f2, (hf _ _ (by omega)).trans h.f3, (hf _ _ (by omega)).trans h.f4,
    (hc _ _ (by omega)).trans h.r0, (hc _ _ (by omega)).trans h.r1, (hc _ _ (by omega)).trans h.r2, (hc _ _ (by omega)).trans h.r3, (hc _ _ (by omega)).trans h.r4,
    (hf _ _ (by omega)).trans h.s0, (hf _ _ (by omega)).trans h.s1, (hf _ _ (by omega)).trans h.s2, (hf _ _ (by omega)).trans h.s3, (hf _ _ (by omega)).trans h.s4⟩
theorem SSam.set {N M R : Nat} {a b c X Y sh : Int} {kn : Bool} {w : World} (h : SSam N M R a b c X Y sh kn w) (v : Int) : SSam N M R a b c X Y sh kn (w.setCell ⟨M, 2, none⟩ (.int .i64 v)) := by
  have hz := h.zr
  have h1 := h.ne1
  have h2 := h.ne2
  have hc : ∀ b' o, b' ≠ M ∨ o ≠ 2 → (w.setCell ⟨M, 2, none⟩ (.int .i64 v)).cell? ⟨b', o, none⟩ = w.cell? ⟨b', o, none⟩ := fun b' o hb' => World.cell?_setCell_other w _ _ _ (by rintro ⟨⟩; simp at hb')
  have hf : ∀ b' o, (w.setCell ⟨M, 2, none⟩ (.int .i64 v)).frozen? ⟨b', o, none⟩ = w.frozen? ⟨b', o, none⟩ := fun b' o => World.frozen?_setCell _ _ _ _
  obtain ⟨u, hu⟩ := h.m2
  exact ⟨by simpa using hz, h1, h2, (hc _ _ (by omega)).trans h.g0, (hc _ _ (by omega)).trans h.g1, (hc _ _ (by omega)).trans h.g2, (hc _ _ (by omega)).trans h.m0, (hc _ _ (by omega)).trans h.m1, ⟨v, World.cell?_setCell_same' _ _ _ (by rw [hu]; rfl)⟩, (hc _ _ (by omega)).trans h.m3, (hc _ _ (by omega)).trans h.m4,
    (hf _ _).trans h.f0, (hf _ _).trans h.f1, (hf _ _).trans h.f2, (hf _ _).trans h.f3, (hf _ _).trans h.f4,
    (hc _ _ (by omega)).trans h.r0, (hc _ _ (by omega)).trans h.r1, (hc _ _ (by omega)).trans h.r2, (hc _ _ (by omega)).trans h.r3, (hc _ _ (by omega)).trans h.r4,
    (hf _ _).trans h.s0, (hf _ _).trans h.s1, (hf _ _).trans h.s2, (hf _ _).trans h.s3, (hf _ _).trans h.s4⟩

set_option maxHeartbeats 4000000 in
theorem sample_known (a b c s8 v4 rto sh t : Int) (w : World) (hG : Tied w) (h : mayB a b c s8 v4 rto sh true = true) :
    Calls Tryd.prog 17 #[.agg #[.int .i64 a, .int .i64 b, .int .i64 c], .agg #[.int .i64 s8, .int .i64 v4, .int .i64 rto, .int .i64 sh, .bool true], .int .i64 t] w fun e w' => e = .returned (sampleV a c s8 v4 true (clampR 1 1048576 t)) ∧ Below w.heap.size w w' := by
  have hb0 : Below w.heap.size w (((w.alloc (.cells #[.int .i64 a, .int .i64 b, .int .i64 c] 23)).alloc (.cells #[.int .i64 s8, .int .i64 v4, .int .i64 rto, .int .i64 sh, .bool true] 26)).alloc (.cells #[.int .i64 0, .int .i64 0, .int .i64 0, .int .i64 0, .bool false] 26)) := (((Below.refl _ _).allocB _).allocB _).allocB _
  have hG' := hG.below hb0
  have c27 := mayB_any a b c s8 v4 rto sh true _ hG'
  rw [h] at c27
  obtain ⟨hs1, hs2, hv1, hv2, ha, hc1⟩ := mayB_bounds h
  obtain ⟨T, hT⟩ : ∃ T, T = clampR 1 1048576 t := ⟨_, rfl⟩
  have kt : 1 ≤ T ∧ T ≤ 1048576 := by rw [hT]; unfold clampR; omega
  obtain ⟨kt0, kt1⟩ := kt
  have HT := Lib.hid hT
  rw [← hT]
  clear hT
  have C := Lib.hid c27
  clear c27 h
  have hz0 : 0 < w.heap.size := World.block_lt_of_cell? w _ (hG.c 0 0 rfl)
  have k6 := hG.c 6 1 rfl
  have k7 := hG.c 7 1048576 rfl
  go_enter Tryd.func17, Tryd.ntmps17
  go_upto_if 18 with (first | (go_at_call 27; refine C.out.mono ?_; rintro e w1 ⟨rfl, hb1⟩; obtain ⟨hc, hf⟩ := bcell hb1; have hsz1 := hb1.size; simp at hsz1; have z0 : 0 < w1.heap.size := (by omega); have z1 : w.heap.size < w1.heap.size := (by omega); have z2 : w.heap.size + 1 < w1.heap.size := (by omega); have z3 : w.heap.size + 1 + 1 < w1.heap.size := (by omega); clear hsz1) | (go_at_call 28; refine (keep_any _ _ _ _).mono ?_; rw [← HT.out]; rintro e w2 ⟨rfl, hb2⟩; obtain ⟨hc2, hf2⟩ := bcell hb2))
  have hB2 : Below w.heap.size w w2 := (hb0.thenB hb1).thenB hb2
  go_cut [7] (fun _ wx => SSam w.heap.size (w.heap.size + 1) (w.heap.size + 1 + 1) a b c (S8 s8 true T) (V4 s8 v4 true T) sh true wx ∧ Below w.heap.size w wx)
  case first =>
    go_wp2
    all_goals
      go_meet
      case rel =>
        refine ⟨?_, (hB2.setCell (p := ⟨w.heap.size + 1, 0, none⟩) (by simp) _).setCell (p := ⟨w.heap.size + 1, 1, none⟩) (by simp) _⟩
        constructor
        case m2 => exact ⟨rto, by go_simp⟩
        case zr => have := hb2.size; simp; omega
        all_goals first | omega | (go_simp; done) | (go_simp; simp only [S8, V4]; first | omega | (simp; omega) | simp)
  case rest =>
    obtain ⟨hS, hBc⟩ := hcut
    obtain ⟨X, hX⟩ : ∃ X, X = S8 s8 true T := ⟨_, rfl⟩
    obtain ⟨Y, hY⟩ : ∃ Y, Y = V4 s8 v4 true T := ⟨_, rfl⟩
    rw [← hX, ← hY] at hS
    have bX : 0 ≤ X ∧ X ≤ 100000000 := by rw [hX]; simp only [S8]; first | omega | (simp; omega)
    have bY : 0 ≤ Y ∧ Y ≤ 100000000 := by rw [hY]; simp only [V4]; first | omega | (simp; omega)
    obtain ⟨bX0, bX1⟩ := bX
    obtain ⟨bY0, bY1⟩ := bY
    have EX := Lib.hid hX
    have EY := Lib.hid hY
    clear hX hY C hG hG' hb0 k6 k7 hz0 HT
    have hHeld0 : SSam w.heap.size (w.heap.size + 1) (w.heap.size + 1 + 1) a b c X Y sh true wc.drew := hS.below (Below.refl _ _).drew
    go_wp2_with fail
    refine wp_region_held_drew (S := SSam w.heap.size (w.heap.size + 1) (w.heap.size + 1 + 1) a b c X Y sh true) (by kernel_rfl) hHeld0 (fun hHeld => ?_)
    refine wpAnyH_take (i := 0) (oi := { dst := some 50, op := Op.load 23 (Operand.tmp 3), type := 23, pos := "rto.go:73", after := #[], guard := none }) (v := ?_) rfl (by kernel_rfl) (by kernel_rfl) (by kernel_rfl) (fun _ _ _ h => h) (Or.inl ⟨by rfl, ?_⟩) hHeld ?_
    rotate_left
    · (intro w hSw; have g0 := hSw.g0; have g1 := hSw.g1; have g2 := hSw.g2; have m0 := hSw.m0; have m1 := hSw.m1; go_simp; try with_reducible rfl)
    simp only [Act.put, List.setIfInBounds_toArray, List.set_cons_zero, List.set_cons_succ]
    refine wpAnyH_take (i := 2) (oi := { dst := some 52, op := Op.fieldAddr 26 (Operand.tmp 4) 0, type := 0, pos := "rto.go:73", after := #[], guard := none }) (v := ?_) rfl (by kernel_rfl) (by kernel_rfl) (by kernel_rfl) (fun _ _ _ h => h) (Or.inl ⟨by rfl, ?_⟩) hHeld ?_
    rotate_left
    · (intro w hSw; clear hSw; go_simp; try with_reducible rfl)
    simp only [Act.put, List.setIfInBounds_toArray, List.set_cons_zero, List.set_cons_succ]
    refine wpAnyH_take (i := 3) (oi := { dst := some 53, op := Op.load 3 (Operand.tmp 52), type := 3, pos := "rto.go:73", after := #[{ on := 2, ground := Ground.data }], guard := none }) (v := ?_) rfl (by kernel_rfl) (by kernel_rfl) (by kernel_rfl) (fun _ _ _ h => h) (Or.inl ⟨by rfl, ?_⟩) hHeld ?_
    rotate_left
    · (intro w hSw; have g0 := hSw.g0; have g1 := hSw.g1; have g2 := hSw.g2; have m0 := hSw.m0; have m1 := hSw.m1; go_simp; try with_reducible rfl)
    simp only [Act.put, List.setIfInBounds_toArray, List.set_cons_zero, List.set_cons_succ]
    refine wpAnyH_take (i := 4) (oi := { dst := some 54, op := Op.binOp BinOp.quo 3 (Operand.tmp 53) (Operand.const (Value.int IntKind.i64 8)) 3, type := 3, pos := "rto.go:73", after := #[{ on := 3, ground := Ground.data }], guard := none }) (v := ?_) rfl (by kernel_rfl) (by kernel_rfl) (by kernel_rfl) (fun _ _ _ h => h) (Or.inl ⟨by rfl, ?_⟩) hHeld ?_
    rotate_left
    · (intro w hSw; clear hSw; go_simp; try with_reducible rfl)
    simp only [Act.put, List.setIfInBounds_toArray, List.set_cons_zero, List.set_cons_succ]
    refine wpAnyH_take (i := 5) (oi := { dst := some 55, op := Op.fieldAddr 26 (Operand.tmp 4) 1, type := 0, pos := "rto.go:73", after := #[], guard := none }) (v := ?_) rfl (by kernel_rfl) (by kernel_rfl) (by kernel_rfl) (fun _ _ _ h => h) (Or.inl ⟨by rfl, ?_⟩) hHeld ?_
    rotate_left
    · (intro w hSw; clear hSw; go_simp; try with_reducible rfl)
    simp only [Act.put, List.setIfInBounds_toArray, List.set_cons_zero, List.set_cons_succ]
    refine wpAnyH_take (i := 6) (oi := { dst := some 56, op := Op.load 3 (Operand.tmp 55), type := 3, pos := "rto.go:73", after := #[{ on := 5, ground := Ground.data }], guard := none }) (v := ?_) rfl (by kernel_rfl) (by kernel_rfl) (by kernel_rfl) (fun _ _ _ h => h) (Or.inl ⟨by rfl, ?_⟩) hHeld ?_
    rotate_left
    · (intro w hSw; have g0 := hSw.g0; have g1 := hSw.g1; have g2 := hSw.g2; have m0 := hSw.m0; have m1 := hSw.m1; go_simp; try with_reducible rfl)
    simp only [Act.put, List.setIfInBounds_toArray, List.set_cons_zero, List.set_cons_succ]
    refine wpAnyH_take (i := 7) (oi := { dst := some 57, op := Op.call { callee := Callee.builtin Builtin.max, args := #[Operand.const (Value.int IntKind.i64 1), Operand.tmp 56], argTypes := #[3, 3] }, type := 3, pos := "rto.go:73", after := #[{ on := 6, ground := Ground.data }], guard := none }) (v := ?_) rfl (by kernel_rfl) (by kernel_rfl) (by kernel_rfl) (fun _ _ _ h => h) (Or.inl ⟨by rfl, ?_⟩) hHeld ?_
    rotate_left
    · (intro w hSw; clear hSw; go_simp; try with_reducible rfl)
    simp only [Act.put, List.setIfInBounds_toArray, List.set_cons_zero, List.set_cons_succ]
    refine wpAnyH_take (i := 8) (oi := { dst := some 58, op := Op.binOp BinOp.add 3 (Operand.tmp 54) (Operand.tmp 57) 3, type := 3, pos := "rto.go:73", after := #[{ on := 4, ground := Ground.data }, { on := 7, ground := Ground.data }], guard := none }) (v := ?_) rfl (by kernel_rfl) (by kernel_rfl) (by kernel_rfl) (fun _ _ _ h => h) (Or.inl ⟨by rfl, ?_⟩) hHeld ?_
    rotate_left
    · (intro w hSw; clear hSw; go_simp; try with_reducible rfl)
    simp only [Act.put, List.setIfInBounds_toArray, List.set_cons_zero, List.set_cons_succ]
    refine wpAnyH_ready (rs := [1]) (by kernel_rfl) (by simp) ?_
    refine AllReadyH.cons (o := { dst := some 51, op := Op.call { callee := Callee.value (Operand.func 29), args := #[Operand.tmp 50], argTypes := #[23] }, type := 46, pos := "rto.go:73", after := #[{ on := 0, ground := Ground.data }], guard := none }) rfl (fun K hK => ?_) AllReadyH.nil
    go_simp
    refine (span_any _ _ _ _).mono ?_
    rintro e w3 ⟨rfl, hb3⟩
    refine hK.out _ _ (hHeld.below hb3) (fun hHeld => ?_)
    clear hK K
    try simp only [Act.put, List.setIfInBounds_toArray, List.set_cons_zero, List.set_cons_succ]
    refine wpAnyH_ready (rs := [9]) (by kernel_rfl) (by simp) ?_
    refine AllReadyH.cons (o := { dst := some 59, op := Op.call { callee := Callee.value (Operand.func 28), args := #[Operand.tmp 51, Operand.tmp 58], argTypes := #[46, 3] }, type := 3, pos := "rto.go:73", after := #[{ on := 1, ground := Ground.data }, { on := 8, ground := Ground.data }, { on := 1, ground := Ground.chain }], guard := none }) rfl (fun K hK => ?_) AllReadyH.nil
    go_simp
    refine (keep_any _ _ _ _).mono ?_
    rintro e w4 ⟨rfl, hb4⟩
    refine hK.out _ _ (hHeld.below hb4) (fun hHeld => ?_)
    clear hK K
    try simp only [Act.put, List.setIfInBounds_toArray, List.set_cons_zero, List.set_cons_succ]
    refine wpAnyH_take (i := 10) (oi := { dst := some 60, op := Op.fieldAddr 26 (Operand.tmp 4) 2, type := 0, pos := "rto.go:73", after := #[{ on := 0, ground := Ground.phase }, { on := 1, ground := Ground.phase }, { on := 2, ground := Ground.phase }, { on := 3, ground := Ground.phase }, { on := 4, ground := Ground.phase }, { on := 5, ground := Ground.phase }, { on := 6, ground := Ground.phase }, { on := 7, ground := Ground.phase }, { on := 8, ground := Ground.phase }, { on := 9, ground := Ground.phase }], guard := none }) (v := ?_) rfl (by kernel_rfl) (by kernel_rfl) (by kernel_rfl) (fun _ _ _ h => h) (Or.inl ⟨by rfl, ?_⟩) hHeld ?_
    rotate_left
    · (intro w hSw; clear hSw; go_simp; try with_reducible rfl)
    simp only [Act.put, List.setIfInBounds_toArray, List.set_cons_zero, List.set_cons_succ]
    refine wpAnyH_ready (rs := [11]) (by kernel_rfl) (by simp) ?_
    refine AllReadyH.cons (o := { dst := none, op := Op.store 3 (Operand.tmp 60) (Operand.tmp 59), type := 0, pos := "rto.go:73", after := #[{ on := 10, ground := Ground.data }, { on := 9, ground := Ground.data }, { on := 9, ground := Ground.chain }, { on := 0, ground := Ground.phase }, { on := 1, ground := Ground.phase }, { on := 2, ground := Ground.phase }, { on := 3, ground := Ground.phase }, { on := 4, ground := Ground.phase }, { on := 5, ground := Ground.phase }, { on := 6, ground := Ground.phase }, { on := 7, ground := Ground.phase }, { on := 8, ground := Ground.phase }, { on := 9, ground := Ground.phase }], guard := none }) rfl (fun K hK => ?_) AllReadyH.nil
    go_simp
    have hS4 := hHeld
    obtain ⟨v2, hm2⟩ := hHeld.m2
    have hfr := hHeld.f2
    go_simp
    refine hK.out _ _ (hHeld.set _) (fun hHeld => ?_)
    clear hK K
    try simp only [Act.put, List.setIfInBounds_toArray, List.set_cons_zero, List.set_cons_succ]
    refine wpAnyH_done (by kernel_rfl) ?_ _
    have hb := ((hBc.drew.thenB hb3).thenB hb4)
    have p0 := hS4.m0
    have p1 := hS4.m1
    have p3 := hS4.m3
    have p4 := hS4.m4
    have f0 := hS4.f0
    have f1 := hS4.f1
    have f3 := hS4.f3
    have f4 := hS4.f4
    have q0 := hS4.r0
    have q1 := hS4.r1
    have q2 := hS4.r2
    have q3 := hS4.r3
    have q4 := hS4.r4
    have s0 := hS4.s0
    have s1 := hS4.s1
    have s2 := hS4.s2
    have s3 := hS4.s3
    have s4 := hS4.s4
    go_wp2
    · have hm : max 1 Y = Y := by omega
      refine bodyPost_ret (v := .agg #[.int .i64 X, .int .i64 Y, .int .i64 (clampR a c (X / 8 + Y)), .int .i64 0, .bool true]) (by simp [results, Tryd.results17, go_sem, q0, q1, q2, q3, q4]) rfl ⟨by unfold sampleV; rw [← EX.out, ← EY.out, hm], ?_⟩
      exact ((((((((hb.setCell (p := ⟨w.heap.size + 1, 2, none⟩) (by simp <;> omega) _).setCell (p := ⟨w.heap.size + 1, 3, none⟩) (by simp <;> omega) _).setCell (p := ⟨w.heap.size + 1, 4, none⟩) (by simp <;> omega) _).setCell (p := ⟨w.heap.size + 1 + 1, 0, none⟩) (by simp <;> omega) _).setCell (p := ⟨w.heap.size + 1 + 1, 1, none⟩) (by simp <;> omega) _).setCell (p := ⟨w.heap.size + 1 + 1, 2, none⟩) (by simp <;> omega) _).setCell (p := ⟨w.heap.size + 1 + 1, 3, none⟩) (by simp <;> omega) _).setCell (p := ⟨w.heap.size + 1 + 1, 4, none⟩) (by simp <;> omega) _)
    · have hm : max 1 Y = 1 := by omega
      refine bodyPost_ret (v := .agg #[.int .i64 X, .int .i64 Y, .int .i64 (clampR a c (X / 8 + 1)), .int .i64 0, .bool true]) (by simp [results, Tryd.results17, go_sem, q0, q1, q2, q3, q4]) rfl ⟨by unfold sampleV; rw [← EX.out, ← EY.out, hm], ?_⟩
      exact ((((((((hb.setCell (p := ⟨w.heap.size + 1, 2, none⟩) (by simp <;> omega) _).setCell (p := ⟨w.heap.size + 1, 3, none⟩) (by simp <;> omega) _).setCell (p := ⟨w.heap.size + 1, 4, none⟩) (by simp <;> omega) _).setCell (p := ⟨w.heap.size + 1 + 1, 0, none⟩) (by simp <;> omega) _).setCell (p := ⟨w.heap.size + 1 + 1, 1, none⟩) (by simp <;> omega) _).setCell (p := ⟨w.heap.size + 1 + 1, 2, none⟩) (by simp <;> omega) _).setCell (p := ⟨w.heap.size + 1 + 1, 3, none⟩) (by simp <;> omega) _).setCell (p := ⟨w.heap.size + 1 + 1, 4, none⟩) (by simp <;> omega) _)


set_option maxHeartbeats 4000000 in
theorem sample_first (a b c s8 v4 rto sh t : Int) (w : World) (hG : Tied w) (h : mayB a b c s8 v4 rto sh false = true) :
    Calls Tryd.prog 17 #[.agg #[.int .i64 a, .int .i64 b, .int .i64 c], .agg #[.int .i64 s8, .int .i64 v4, .int .i64 rto, .int .i64 sh, .bool false], .int .i64 t] w fun e w' => e = .returned (sampleV a c s8 v4 false (clampR 1 1048576 t)) ∧ Below w.heap.size w w' := by
  have hb0 : Below w.heap.size w (((w.alloc (.cells #[.int .i64 a, .int .i64 b, .int .i64 c] 23)).alloc (.cells #[.int .i64 s8, .int .i64 v4, .int .i64 rto, .int .i64 sh, .bool false] 26)).alloc (.cells #[.int .i64 0, .int .i64 0, .int .i64 0, .int .i64 0, .bool false] 26)) := (((Below.refl _ _).allocB _).allocB _).allocB _
  have hG' := hG.below hb0
  have c27 := mayB_any a b c s8 v4 rto sh false _ hG'
  rw [h] at c27
  obtain ⟨hs1, hs2, hv1, hv2, ha, hc1⟩ := mayB_bounds h
  obtain ⟨T, hT⟩ : ∃ T, T = clampR 1 1048576 t := ⟨_, rfl⟩
  have kt : 1 ≤ T ∧ T ≤ 1048576 := by rw [hT]; unfold clampR; omega
  obtain ⟨kt0, kt1⟩ := kt
  have HT := Lib.hid hT
  rw [← hT]
  clear hT
  have C := Lib.hid c27
  clear c27 h
  have hz0 : 0 < w.heap.size := World.block_lt_of_cell? w _ (hG.c 0 0 rfl)
  have k6 := hG.c 6 1 rfl
  have k7 := hG.c 7 1048576 rfl
  go_enter Tryd.func17, Tryd.ntmps17
  go_upto_if 18 with (first | (go_at_call 27; refine C.out.mono ?_; rintro e w1 ⟨rfl, hb1⟩; obtain ⟨hc, hf⟩ := bcell hb1; have hsz1 := hb1.size; simp at hsz1; have z0 : 0 < w1.heap.size := (by omega); have z1 : w.heap.size < w1.heap.size := (by omega); have z2 : w.heap.size + 1 < w1.heap.size := (by omega); have z3 : w.heap.size + 1 + 1 < w1.heap.size := (by omega); clear hsz1) | (go_at_call 28; refine (keep_any _ _ _ _).mono ?_; rw [← HT.out]; rintro e w2 ⟨rfl, hb2⟩; obtain ⟨hc2, hf2⟩ := bcell hb2))
  have hB2 : Below w.heap.size w w2 := (hb0.thenB hb1).thenB hb2
  go_cut [7] (fun _ wx => SSam w.heap.size (w.heap.size + 1) (w.heap.size + 1 + 1) a b c (S8 s8 false T) (V4 s8 v4 false T) sh false wx ∧ Below w.heap.size w wx)
  case first =>
    go_wp2
    all_goals
      go_meet
      case rel =>
        refine ⟨?_, (hB2.setCell (p := ⟨w.heap.size + 1, 0, none⟩) (by simp) _).setCell (p := ⟨w.heap.size + 1, 1, none⟩) (by simp) _⟩
        constructor
        case m2 => exact ⟨rto, by go_simp⟩
        case zr => have := hb2.size; simp; omega
        all_goals first | omega | (go_simp; done) | (go_simp; simp only [S8, V4]; first | omega | (simp; omega) | simp)
  case rest =>
    obtain ⟨hS, hBc⟩ := hcut
    obtain ⟨X, hX⟩ : ∃ X, X = S8 s8 false T := ⟨_, rfl⟩
    obtain ⟨Y, hY⟩ : ∃ Y, Y = V4 s8 v4 false T := ⟨_, rfl⟩
    rw [← hX, ← hY] at hS
    have bX : 0 ≤ X ∧ X ≤ 100000000 := by rw [hX]; simp only [S8]; first | omega | (simp; omega)
    have bY : 0 ≤ Y ∧ Y ≤ 100000000 := by rw [hY]; simp only [V4]; first | omega | (simp; omega)
    obtain ⟨bX0, bX1⟩ := bX
    obtain ⟨bY0, bY1⟩ := bY
    have EX := Lib.hid hX
    have EY := Lib.hid hY
    clear hX hY C hG hG' hb0 k6 k7 hz0 HT
    have hHeld0 : SSam w.heap.size (w.heap.size + 1) (w.heap.size + 1 + 1) a b c X Y sh false wc.drew := hS.below (Below.refl _ _).drew
    go_wp2_with fail
    refine wp_region_held_drew (S := SSam w.heap.size (w.heap.size + 1) (w.heap.size + 1 + 1) a b c X Y sh false) (by kernel_rfl) hHeld0 (fun hHeld => ?_)
    refine wpAnyH_take (i := 0) (oi := { dst := some 50, op := Op.load 23 (Operand.tmp 3), type := 23, pos := "rto.go:73", after := #[], guard := none }) (v := ?_) rfl (by kernel_rfl) (by kernel_rfl) (by kernel_rfl) (fun _ _ _ h => h) (Or.inl ⟨by rfl, ?_⟩) hHeld ?_
    rotate_left
    · (intro w hSw; have g0 := hSw.g0; have g1 := hSw.g1; have g2 := hSw.g2; have m0 := hSw.m0; have m1 := hSw.m1; go_simp; try with_reducible rfl)
    simp only [Act.put, List.setIfInBounds_toArray, List.set_cons_zero, List.set_cons_succ]
    refine wpAnyH_take (i := 2) (oi := { dst := some 52, op := Op.fieldAddr 26 (Operand.tmp 4) 0, type := 0, pos := "rto.go:73", after := #[], guard := none }) (v := ?_) rfl (by kernel_rfl) (by kernel_rfl) (by kernel_rfl) (fun _ _ _ h => h) (Or.inl ⟨by rfl, ?_⟩) hHeld ?_
    rotate_left
    · (intro w hSw; clear hSw; go_simp; try with_reducible rfl)
    simp only [Act.put, List.setIfInBounds_toArray, List.set_cons_zero, List.set_cons_succ]
    refine wpAnyH_take (i := 3) (oi := { dst := some 53, op := Op.load 3 (Operand.tmp 52), type := 3, pos := "rto.go:73", after := #[{ on := 2, ground := Ground.data }], guard := none }) (v := ?_) rfl (by kernel_rfl) (by kernel_rfl) (by kernel_rfl) (fun _ _ _ h => h) (Or.inl ⟨by rfl, ?_⟩) hHeld ?_
    rotate_left
    · (intro w hSw; have g0 := hSw.g0; have g1 := hSw.g1; have g2 := hSw.g2; have m0 := hSw.m0; have m1 := hSw.m1; go_simp; try with_reducible rfl)
    simp only [Act.put, List.setIfInBounds_toArray, List.set_cons_zero, List.set_cons_succ]
    refine wpAnyH_take (i := 4) (oi := { dst := some 54, op := Op.binOp BinOp.quo 3 (Operand.tmp 53) (Operand.const (Value.int IntKind.i64 8)) 3, type := 3, pos := "rto.go:73", after := #[{ on := 3, ground := Ground.data }], guard := none }) (v := ?_) rfl (by kernel_rfl) (by kernel_rfl) (by kernel_rfl) (fun _ _ _ h => h) (Or.inl ⟨by rfl, ?_⟩) hHeld ?_
    rotate_left
    · (intro w hSw; clear hSw; go_simp; try with_reducible rfl)
    simp only [Act.put, List.setIfInBounds_toArray, List.set_cons_zero, List.set_cons_succ]
    refine wpAnyH_take (i := 5) (oi := { dst := some 55, op := Op.fieldAddr 26 (Operand.tmp 4) 1, type := 0, pos := "rto.go:73", after := #[], guard := none }) (v := ?_) rfl (by kernel_rfl) (by kernel_rfl) (by kernel_rfl) (fun _ _ _ h => h) (Or.inl ⟨by rfl, ?_⟩) hHeld ?_
    rotate_left
    · (intro w hSw; clear hSw; go_simp; try with_reducible rfl)
    simp only [Act.put, List.setIfInBounds_toArray, List.set_cons_zero, List.set_cons_succ]
    refine wpAnyH_take (i := 6) (oi := { dst := some 56, op := Op.load 3 (Operand.tmp 55), type := 3, pos := "rto.go:73", after := #[{ on := 5, ground := Ground.data }], guard := none }) (v := ?_) rfl (by kernel_rfl) (by kernel_rfl) (by kernel_rfl) (fun _ _ _ h => h) (Or.inl ⟨by rfl, ?_⟩) hHeld ?_
    rotate_left
    · (intro w hSw; have g0 := hSw.g0; have g1 := hSw.g1; have g2 := hSw.g2; have m0 := hSw.m0; have m1 := hSw.m1; go_simp; try with_reducible rfl)
    simp only [Act.put, List.setIfInBounds_toArray, List.set_cons_zero, List.set_cons_succ]
    refine wpAnyH_take (i := 7) (oi := { dst := some 57, op := Op.call { callee := Callee.builtin Builtin.max, args := #[Operand.const (Value.int IntKind.i64 1), Operand.tmp 56], argTypes := #[3, 3] }, type := 3, pos := "rto.go:73", after := #[{ on := 6, ground := Ground.data }], guard := none }) (v := ?_) rfl (by kernel_rfl) (by kernel_rfl) (by kernel_rfl) (fun _ _ _ h => h) (Or.inl ⟨by rfl, ?_⟩) hHeld ?_
    rotate_left
    · (intro w hSw; clear hSw; go_simp; try with_reducible rfl)
    simp only [Act.put, List.setIfInBounds_toArray, List.set_cons_zero, List.set_cons_succ]
    refine wpAnyH_take (i := 8) (oi := { dst := some 58, op := Op.binOp BinOp.add 3 (Operand.tmp 54) (Operand.tmp 57) 3, type := 3, pos := "rto.go:73", after := #[{ on := 4, ground := Ground.data }, { on := 7, ground := Ground.data }], guard := none }) (v := ?_) rfl (by kernel_rfl) (by kernel_rfl) (by kernel_rfl) (fun _ _ _ h => h) (Or.inl ⟨by rfl, ?_⟩) hHeld ?_
    rotate_left
    · (intro w hSw; clear hSw; go_simp; try with_reducible rfl)
    simp only [Act.put, List.setIfInBounds_toArray, List.set_cons_zero, List.set_cons_succ]
    refine wpAnyH_ready (rs := [1]) (by kernel_rfl) (by simp) ?_
    refine AllReadyH.cons (o := { dst := some 51, op := Op.call { callee := Callee.value (Operand.func 29), args := #[Operand.tmp 50], argTypes := #[23] }, type := 46, pos := "rto.go:73", after := #[{ on := 0, ground := Ground.data }], guard := none }) rfl (fun K hK => ?_) AllReadyH.nil
    go_simp
    refine (span_any _ _ _ _).mono ?_
    rintro e w3 ⟨rfl, hb3⟩
    refine hK.out _ _ (hHeld.below hb3) (fun hHeld => ?_)
    clear hK K
    try simp only [Act.put, List.setIfInBounds_toArray, List.set_cons_zero, List.set_cons_succ]
    refine wpAnyH_ready (rs := [9]) (by kernel_rfl) (by simp) ?_
    refine AllReadyH.cons (o := { dst := some 59, op := Op.call { callee := Callee.value (Operand.func 28), args := #[Operand.tmp 51, Operand.tmp 58], argTypes := #[46, 3] }, type := 3, pos := "rto.go:73", after := #[{ on := 1, ground := Ground.data }, { on := 8, ground := Ground.data }, { on := 1, ground := Ground.chain }], guard := none }) rfl (fun K hK => ?_) AllReadyH.nil
    go_simp
    refine (keep_any _ _ _ _).mono ?_
    rintro e w4 ⟨rfl, hb4⟩
    refine hK.out _ _ (hHeld.below hb4) (fun hHeld => ?_)
    clear hK K
    try simp only [Act.put, List.setIfInBounds_toArray, List.set_cons_zero, List.set_cons_succ]
    refine wpAnyH_take (i := 10) (oi := { dst := some 60, op := Op.fieldAddr 26 (Operand.tmp 4) 2, type := 0, pos := "rto.go:73", after := #[{ on := 0, ground := Ground.phase }, { on := 1, ground := Ground.phase }, { on := 2, ground := Ground.phase }, { on := 3, ground := Ground.phase }, { on := 4, ground := Ground.phase }, { on := 5, ground := Ground.phase }, { on := 6, ground := Ground.phase }, { on := 7, ground := Ground.phase }, { on := 8, ground := Ground.phase }, { on := 9, ground := Ground.phase }], guard := none }) (v := ?_) rfl (by kernel_rfl) (by kernel_rfl) (by kernel_rfl) (fun _ _ _ h => h) (Or.inl ⟨by rfl, ?_⟩) hHeld ?_
    rotate_left
    · (intro w hSw; clear hSw; go_simp; try with_reducible rfl)
    simp only [Act.put, List.setIfInBounds_toArray, List.set_cons_zero, List.set_cons_succ]
    refine wpAnyH_ready (rs := [11]) (by kernel_rfl) (by simp) ?_
    refine AllReadyH.cons (o := { dst := none, op := Op.store 3 (Operand.tmp 60) (Operand.tmp 59), type := 0, pos := "rto.go:73", after := #[{ on := 10, ground := Ground.data }, { on := 9, ground := Ground.data }, { on := 9, ground := Ground.chain }, { on := 0, ground := Ground.phase }, { on := 1, ground := Ground.phase }, { on := 2, ground := Ground.phase }, { on := 3, ground := Ground.phase }, { on := 4, ground := Ground.phase }, { on := 5, ground := Ground.phase }, { on := 6, ground := Ground.phase }, { on := 7, ground := Ground.phase }, { on := 8, ground := Ground.phase }, { on := 9, ground := Ground.phase }], guard := none }) rfl (fun K hK => ?_) AllReadyH.nil
    go_simp
    have hS4 := hHeld
    obtain ⟨v2, hm2⟩ := hHeld.m2
    have hfr := hHeld.f2
    go_simp
    refine hK.out _ _ (hHeld.set _) (fun hHeld => ?_)
    clear hK K
    try simp only [Act.put, List.setIfInBounds_toArray, List.set_cons_zero, List.set_cons_succ]
    refine wpAnyH_done (by kernel_rfl) ?_ _
    have hb := ((hBc.drew.thenB hb3).thenB hb4)
    have p0 := hS4.m0
    have p1 := hS4.m1
    have p3 := hS4.m3
    have p4 := hS4.m4
    have f0 := hS4.f0
    have f1 := hS4.f1
    have f3 := hS4.f3
    have f4 := hS4.f4
    have q0 := hS4.r0
    have q1 := hS4.r1
    have q2 := hS4.r2
    have q3 := hS4.r3
    have q4 := hS4.r4
    have s0 := hS4.s0
    have s1 := hS4.s1
    have s2 := hS4.s2
    have s3 := hS4.s3
    have s4 := hS4.s4
    go_wp2
    · have hm : max 1 Y = Y := by omega
      refine bodyPost_ret (v := .agg #[.int .i64 X, .int .i64 Y, .int .i64 (clampR a c (X / 8 + Y)), .int .i64 0, .bool true]) (by simp [results, Tryd.results17, go_sem, q0, q1, q2, q3, q4]) rfl ⟨by unfold sampleV; rw [← EX.out, ← EY.out, hm], ?_⟩
      exact ((((((((hb.setCell (p := ⟨w.heap.size + 1, 2, none⟩) (by simp <;> omega) _).setCell (p := ⟨w.heap.size + 1, 3, none⟩) (by simp <;> omega) _).setCell (p := ⟨w.heap.size + 1, 4, none⟩) (by simp <;> omega) _).setCell (p := ⟨w.heap.size + 1 + 1, 0, none⟩) (by simp <;> omega) _).setCell (p := ⟨w.heap.size + 1 + 1, 1, none⟩) (by simp <;> omega) _).setCell (p := ⟨w.heap.size + 1 + 1, 2, none⟩) (by simp <;> omega) _).setCell (p := ⟨w.heap.size + 1 + 1, 3, none⟩) (by simp <;> omega) _).setCell (p := ⟨w.heap.size + 1 + 1, 4, none⟩) (by simp <;> omega) _)
    · have hm : max 1 Y = 1 := by omega
      refine bodyPost_ret (v := .agg #[.int .i64 X, .int .i64 Y, .int .i64 (clampR a c (X / 8 + 1)), .int .i64 0, .bool true]) (by simp [results, Tryd.results17, go_sem, q0, q1, q2, q3, q4]) rfl ⟨by unfold sampleV; rw [← EX.out, ← EY.out, hm], ?_⟩
      exact ((((((((hb.setCell (p := ⟨w.heap.size + 1, 2, none⟩) (by simp <;> omega) _).setCell (p := ⟨w.heap.size + 1, 3, none⟩) (by simp <;> omega) _).setCell (p := ⟨w.heap.size + 1, 4, none⟩) (by simp <;> omega) _).setCell (p := ⟨w.heap.size + 1 + 1, 0, none⟩) (by simp <;> omega) _).setCell (p := ⟨w.heap.size + 1 + 1, 1, none⟩) (by simp <;> omega) _).setCell (p := ⟨w.heap.size + 1 + 1, 2, none⟩) (by simp <;> omega) _).setCell (p := ⟨w.heap.size + 1 + 1, 3, none⟩) (by simp <;> omega) _).setCell (p := ⟨w.heap.size + 1 + 1, 4, none⟩) (by simp <;> omega) _)

end Go.Proofs.YtccddkkijhedhaaDoor
