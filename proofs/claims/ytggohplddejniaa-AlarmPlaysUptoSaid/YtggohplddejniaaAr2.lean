import Derived.Test.YtggohplddejniaaAr
import Derived.Test.YtggohplddejniaaEngQ
namespace Go.Proofs.Ytggohplddejniaa
open Go Go.Proofs Go.ChangeShapes Go.WideShapes Go.ChangeAt Go.RowKit
structure Wrd where
  kd : Int
  s : ByteArray
  at_ : Int
def wrdE : Elem Wrd where
  sz := 3
  pos := by decide
  enc t := [.int .i64 t.kd, .string t.s, .int .i64 t.at_]
  len _ := rfl
  one t v hv := by
    simp at hv
    rcases hv with rfl | rfl | rfl <;> rfl
section
variable {H : Type} {enc : TypeId × Value → H} {P : Program} {W : World} {base : Nat} {spare : Nat → Bool} {held : Bool} {t e : TypeId} {v : Value} {d : DataW H} {ps : List MemPlace} {r : Reach} {b0 : Nat} {ts : List TypeId} {ds : List (DataW H)} {jj : Nat}
theorem rd_words {f0 f1 f2 : Field} (hu : P.underlying t = some (.slice e)) (he : P.underlying e = some (.struct #[f0, f1, f2])) (ce : P.cellsOf e = 3) (be : P.bytesOf e = 32) (o0 : f0.offset = 0) (o1 : f1.offset = 1) (o2 : f2.offset = 2) (c0 : P.cellsOf f0.type = 1) (c1 : P.cellsOf f1.type = 1) (c2 : P.cellsOf f2.type = 1)
    (u0 : P.underlying f0.type = some (.int .i64)) (u1 : P.underlying f1.type = some .string) (u2 : P.underlying f2.type = some (.int .i64)) (hval : Value.okWide P W r b0 t v) (h : DataW.Trod enc P W base spare held t v d ps)
    (hsz : (DataW.weightsEach P ts ds).all (· ≤ reachBytes) = true) (htj : ts[jj]? = some t) (hdj : ds[jj]? = some d) :
    ∃ xs : List Wrd, Rd wrdE W v xs ∧ xs.length < 4398046511104 := by
  obtain ⟨a, len, cap, rfl⟩ := okWide_slice hu hval
  obtain ⟨fuel, hf⟩ := h
  rcases Go.Deep.open_slice hu hf with ⟨hcs, _⟩ | ⟨x, l, c, m, n, D, Pl, hcs, _, hl, hm, hmm, hx, hc⟩
  · simp [Value.cells] at hcs
    obtain ⟨rfl, rfl, rfl⟩ := hcs
    exact ⟨[], ⟨none, 0, rfl, Nat.le_refl _, by decide, .inl rfl⟩, by decide⟩
  · simp [Value.cells] at hcs
    obtain ⟨rfl, rfl, rfl⟩ := hcs
    have hlm : len ≤ m := by rw [hmm]; split <;> omega
    have hb : len < 4398046511104 := by
      obtain ⟨hx1, _⟩ := Prod.mk.inj hx
      rw [hx1] at hdj
      have z := sized_slice hsz htj hdj hu
      rw [be] at z
      simp only [List.length_map, List.length_range] at z
      have hr : reachBytes = 140737488351232 := by decide
      omega
    have each : ∀ i, i < len → ∃ q : Wrd, W.cell? (x.add (i * 3)) = some (.int .i64 q.kd) ∧ W.cell? (x.add (i * 3 + 1)) = some (.string q.s) ∧ W.cell? (x.add (i * 3 + 2)) = some (.int .i64 q.at_) := fun i hi => by
      obtain ⟨cs', h1, h2⟩ := hc i (by omega)
      rw [ce] at h1
      obtain ⟨_, hlen, hcell⟩ := World.cells?_some h1
      obtain ⟨xs, k, hk, hxy, _, hxl, hg⟩ := DataW.trod_struct he h2
      match xs, hxl, cs', hlen with
      | [y0, y1, y2], _, [v0, v1, v2], _ =>
        have g0 := hg 0 f0 rfl
        have g1 := hg 1 f1 rfl
        have g2 := hg 2 f2 rfl
        simp [o0, o1, o2, c0, c1, c2] at g0 g1 g2
        have e0 := hcell 0 (by omega)
        have e1 := hcell 1 (by omega)
        have e2 := hcell 2 (by omega)
        rw [Go.Deep.add_add] at e0 e1 e2
        obtain ⟨k0, q0, _⟩ := DataW.trod_int u0 g0
        obtain ⟨k1, q1, _⟩ := DataW.trod_string u1 g1
        obtain ⟨k2, q2, _⟩ := DataW.trod_int u2 g2
        injection q0 with q0
        injection q1 with q1
        injection q2 with q2
        exact ⟨⟨k0, k1, k2⟩, by simpa [q0] using e0, by simpa [q1] using e1, by simpa [q2] using e2⟩
    by_cases h0 : len = 0
    · subst h0
      exact ⟨[], ⟨some x, cap, rfl, Nat.zero_le _, hm, .inl rfl⟩, by decide⟩
    · obtain ⟨g, off, sp⟩ := x
      have hsp : sp = none := by
        obtain ⟨q, h1, _⟩ := each 0 (by omega)
        cases sp with
        | none => rfl
        | some s =>
          rw [Nat.zero_mul] at h1
          simp [Addr.add, World.cell?] at h1
          split at h1 <;> cases h1
      subst hsp
      have each' : ∀ i : Fin len, ∃ q : Wrd, W.cell? ⟨g, off + i.1 * 3, none⟩ = some (.int .i64 q.kd) ∧ W.cell? ⟨g, off + i.1 * 3 + 1, none⟩ = some (.string q.s) ∧ W.cell? ⟨g, off + i.1 * 3 + 2, none⟩ = some (.int .i64 q.at_) := fun i => by
        obtain ⟨q, h1, h2, h3⟩ := each i.1 i.2
        refine ⟨q, ?_, ?_, ?_⟩
        · rw [← h1]
          unfold Addr.add
          split
          · rename_i e; rw [e]; rfl
          · rfl
        · rw [← h2]
          unfold Addr.add
          rw [if_neg (by omega)]
          rfl
        · rw [← h3]
          unfold Addr.add
          rw [if_neg (by omega)]
          rfl
      obtain ⟨q, hq⟩ := Classical.axiomOfChoice each'
      refine ⟨List.ofFn q, ⟨some ⟨g, off, none⟩, cap, by rw [List.length_ofFn], by rw [List.length_ofFn]; exact hl, hm, .inr ⟨g, off, rfl, fun i p hi j u hj => ?_⟩⟩, by rw [List.length_ofFn]; exact hb⟩
      rw [List.getElem?_ofFn] at hi
      split at hi
      · rename_i hlt
        injection hi with hi
        subst hi
        obtain ⟨h1, h2, h3⟩ := hq ⟨i, hlt⟩
        match j, hj with
        | 0, hj => injection hj with hj; rw [← hj]; exact h1
        | 1, hj => injection hj with hj; rw [← hj]; exact h2
        | 2, hj => injection hj with hj; rw [← hj]; exact h3
      · cases hi
end
end Go.Proofs.Ytggohplddejniaa
