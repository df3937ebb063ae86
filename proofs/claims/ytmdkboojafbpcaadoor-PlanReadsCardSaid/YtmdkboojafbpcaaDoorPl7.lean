import Derived.Test.YtmdkboojafbpcaaDoorPl6
namespace Go.Proofs.YtmdkboojafbpcaaDoor
open Go Go.Proofs
set_option maxRecDepth 8000

theorem stepS_in (h x : Int) : 0 ≤ stepS h x ∧ stepS h x < 18446744073709551616 := by
  unfold stepS
  rw [wrapU_eq]
  omega
theorem sumR_in : ∀ (bs : List Int) (h : Int), 0 ≤ h ∧ h < 18446744073709551616 → 0 ≤ sumR h bs ∧ sumR h bs < 18446744073709551616
  | [], _, hh => hh
  | x :: bs, h, _ => sumR_in bs (stepS h x) (stepS_in h x)
theorem sum0_in (bs : List Int) : 0 ≤ sumR off0 bs ∧ sumR off0 bs < 18446744073709551616 := sumR_in bs off0 (by decide)
theorem dg4_back {x : Int} (h : 0 ≤ x ∧ x ≤ 4294967295) : IntKind.i64.wrap (numR (dg (IntKind.u64.wrap x) 4)) = x := by
  rw [numR_dg _ (by decide), wrapU_in (by omega)]
  have h5 : (256 : Int) ^ 4 = 4294967296 := by decide
  rw [h5, Int.emod_eq_of_lt (by omega) (by omega), IntWalk.i64_in _ (by omega)]
theorem dg8_back {x : Int} (h : 0 ≤ x ∧ x < 18446744073709551616) : numR (dg x 8) = x := by
  rw [numR_dg _ (by decide)]
  have h5 : (256 : Int) ^ 8 = 18446744073709551616 := by decide
  rw [h5, Int.emod_eq_of_lt (by omega) (by omega)]
theorem hdR_byts (s : Shp) : Byts (hdR s) := fun x hx => by
  rcases List.mem_append.1 hx with h | h
  · simp at h; omega
  · obtain ⟨y, _, hy⟩ := List.mem_flatMap.1 h
    exact dg_byts _ _ x hy
theorem superR_byts (s : Shp) : Byts (superR s) := fun x hx => by
  rcases List.mem_append.1 hx with h | h
  · rcases List.mem_append.1 h with h | h
    · exact hdR_byts s x h
    · exact dg_byts _ _ x h
  · have := (List.mem_replicate.1 h).2
    omega
theorem superR_split (s : Shp) : superR s = 65 :: 78 :: 88 :: 83 :: (dg (IntKind.u64.wrap s.c) 4 ++ (dg (IntKind.u64.wrap s.w) 4 ++ (dg (IntKind.u64.wrap s.p) 4 ++ (dg (IntKind.u64.wrap s.k) 4 ++ (dg (IntKind.u64.wrap s.i) 4 ++ (dg (IntKind.u64.wrap s.q) 4 ++ (dg (IntKind.u64.wrap s.d) 4 ++ (dg (IntKind.u64.wrap s.j) 4 ++ (dg (sumR off0 (hdR s)) 8 ++ List.replicate 468 0))))))))) := by
  unfold superR
  show (hdN s 8 ++ _) ++ _ = _
  unfold hdN
  have : s.l.take 8 = [s.c, s.w, s.p, s.k, s.i, s.q, s.d, s.j] := rfl
  rw [this]
  simp only [List.flatMap_cons, List.flatMap_nil, List.append_nil, List.append_assoc, List.cons_append, List.nil_append]
theorem skip4 {x : Int} {l : List Int} {k : Nat} : (dg x 4 ++ l).drop (4 + k) = l.drop k := by
  have h1 : (dg x 4 ++ l).drop 4 = l := by
    rw [List.drop_append_of_le_length (by rw [dg_len]; exact Nat.le_refl _), List.drop_of_length_le (by rw [dg_len]; exact Nat.le_refl _), List.nil_append]
  rw [← List.drop_drop, h1]
theorem first4 {x : Int} {l : List Int} : (dg x 4 ++ l).take 4 = dg x 4 := by
  rw [List.take_append_of_le_length (by rw [dg_len]; exact Nat.le_refl _), List.take_of_length_le (by rw [dg_len]; exact Nat.le_refl _)]
theorem first4' {x : Int} {l : List Int} : ((dg x 4 ++ l).drop 0).take 4 = dg x 4 := first4
theorem numX_super {s : Shp} (h : okS s) : rdShp (superR s) = s := by
  obtain ⟨h0, h1, h2, h3, h4, h5, h6, h7⟩ := h
  have e : (superR s).drop 4 = dg (IntKind.u64.wrap s.c) 4 ++ (dg (IntKind.u64.wrap s.w) 4 ++ (dg (IntKind.u64.wrap s.p) 4 ++ (dg (IntKind.u64.wrap s.k) 4 ++ (dg (IntKind.u64.wrap s.i) 4 ++ (dg (IntKind.u64.wrap s.q) 4 ++ (dg (IntKind.u64.wrap s.d) 4 ++ (dg (IntKind.u64.wrap s.j) 4 ++ (dg (sumR off0 (hdR s)) 8 ++ List.replicate 468 0)))))))) := by rw [superR_split]; rfl
  unfold rdShp numX
  rw [e]
  have r0 : (4 * 0 : Nat) = 0 := rfl
  have r1 : (4 * 1 : Nat) = 4 + 0 := rfl
  have r2 : (4 * 2 : Nat) = 4 + (4 + 0) := rfl
  have r3 : (4 * 3 : Nat) = 4 + (4 + (4 + 0)) := rfl
  have r4 : (4 * 4 : Nat) = 4 + (4 + (4 + (4 + 0))) := rfl
  have r5 : (4 * 5 : Nat) = 4 + (4 + (4 + (4 + (4 + 0)))) := rfl
  have r6 : (4 * 6 : Nat) = 4 + (4 + (4 + (4 + (4 + (4 + 0))))) := rfl
  have r7 : (4 * 7 : Nat) = 4 + (4 + (4 + (4 + (4 + (4 + (4 + 0)))))) := rfl
  rw [r0, r1, r2, r3, r4, r5, r6, r7]
  simp only [skip4, first4', dg4_back (x := s.c) (by omega), dg4_back (x := s.w) (by omega), dg4_back (x := s.p) (by omega), dg4_back (x := s.k) (by omega), dg4_back (x := s.i) (by omega), dg4_back (x := s.q) (by omega), dg4_back (x := s.d) (by omega), dg4_back (x := s.j) (by omega)]
theorem take36 (s : Shp) : (superR s).take 36 = hdR s := by
  unfold superR
  rw [List.append_assoc, List.take_append_of_le_length (by rw [hdR_len]; exact Nat.le_refl _), List.take_of_length_le (by rw [hdR_len]; exact Nat.le_refl _)]
theorem drop36 (s : Shp) : (superR s).drop 36 = dg (sumR off0 (hdR s)) 8 ++ List.replicate 468 0 := by
  unfold superR
  rw [List.append_assoc, List.drop_append_of_le_length (by rw [hdR_len]; exact Nat.le_refl _), List.drop_of_length_le (by rw [hdR_len]; exact Nat.le_refl _), List.nil_append]
theorem sum_super (s : Shp) : numR ((((superR s).drop 4).drop 32).take 8) = sumR off0 ((superR s).take 36) := by
  rw [List.drop_drop, take36]
  show numR (((superR s).drop 36).take 8) = _
  rw [drop36, List.take_append_of_le_length (by rw [dg_len]; exact Nat.le_refl _), List.take_of_length_le (by rw [dg_len]; exact Nat.le_refl _)]
  exact dg8_back (sum0_in _)
theorem drop44 (s : Shp) : (superR s).drop 44 = List.replicate 468 0 := by
  have : (superR s).drop 44 = ((superR s).drop 36).drop 8 := by rw [List.drop_drop]
  rw [this, drop36, List.drop_append_of_le_length (by rw [dg_len]; exact Nat.le_refl _), List.drop_of_length_le (by rw [dg_len]; exact Nat.le_refl _), List.nil_append]
theorem mg_super (s : Shp) : mg (superR s) = true := by
  have : (superR s).take 4 = [65, 78, 88, 83] := by rw [superR_split]; rfl
  unfold mg
  rw [this]
  decide +kernel
/-- A shape that may be is read back. -/
theorem read_super {s : Shp} (h : (planR s).2 = 0) : readR (superR s) = (s, 0) := by
  have hok := planR_ok (s := s) (ly := (planR s).1) (by rw [← h])
  unfold readR
  rw [if_pos ⟨superR_len s, mg_super s⟩, if_pos (sum_super s), if_pos (by rw [drop44]; intro x hx; exact (List.mem_replicate.1 hx).2), numX_super hok.1, if_pos h]
theorem planSmall : planR smallS = (smallL, 0) := by decide +kernel
theorem whereSmall : whereR smallL 58 = (6, 3) := by decide +kernel
theorem superSmall : superB smallS = superR smallS := by
  unfold superB
  rw [planSmall]
  rfl
theorem readSmall : readR (superR smallS) = (smallS, 0) := read_super (by rw [planSmall])
end Go.Proofs.YtmdkboojafbpcaaDoor
