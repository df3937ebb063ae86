import Derived.Test.YtggohplddejniaaL2
import Derived.Test.YtggohplddejniaaRows
import Derived.Below
import Derived.KernelRfl
import Derived.SizedLaws
import Derived.WalkKit
import Derived.ProofKit
import Derived.OpenShut
import Derived.Deep.SlicePairs
namespace Go.Proofs.Ytggohplddejniaa
open Go Go.Proofs Go.ChangeShapes Go.WideShapes Go.ChangeAt Go.RowKit
theorem own : ownKnob Try.prog.godebug = none := by kernel_rfl
theorem laidOut : laidOutB Try.prog = true := by kernel_rfl
theorem But.below {w w' : World} (h : But w w' nowhere) : Below w.heap.size w w' := ⟨h.os, h.tape, h.output, h.size, fun k hk => h.blk k hk id⟩
section
variable {H : Type} {enc : TypeId × Value → H} {P : Program} {W : World} {base : Nat} {spare : Nat → Bool} {held : Bool} {t e : TypeId} {v : Value} {d : DataW H} {ps : List MemPlace} {r : Reach} {b0 : Nat}
theorem rd_pairs {f0 f1 : Field} (hu : P.underlying t = some (.slice e)) (he : P.underlying e = some (.struct #[f0, f1])) (ce : P.cellsOf e = 2) (o0 : f0.offset = 0) (o1 : f1.offset = 1) (c0 : P.cellsOf f0.type = 1) (c1 : P.cellsOf f1.type = 1)
    (u0 : P.underlying f0.type = some (.int .i64)) (u1 : P.underlying f1.type = some (.int .i64)) (hval : Value.okWide P W r b0 t v) (h : DataW.Trod enc P W base spare held t v d ps) :
    ∃ xs : List Pair, Rd pairE W v xs := by
  obtain ⟨a, len, cap, rfl⟩ := okWide_slice hu hval
  obtain ⟨fuel, hf⟩ := h
  rcases Go.Deep.open_slice_pairs hu he ce o0 o1 c0 c1 hf with ⟨hcs, _⟩ | ⟨x, l, c, m, n, V0, V1, D0, D1, P0, P1, hcs, _, hl, hm, hmm, hx, hc⟩
  · simp [Value.cells] at hcs
    obtain ⟨rfl, rfl, rfl⟩ := hcs
    exact ⟨[], none, 0, rfl, Nat.le_refl _, by decide, .inl rfl⟩
  · simp [Value.cells] at hcs
    obtain ⟨rfl, rfl, rfl⟩ := hcs
    have hlm : len ≤ m := by rw [hmm]; split <;> omega
    have each : ∀ i, i < len → ∃ q : Pair, W.cell? (x.add (i * 2)) = some (.int .i64 q.K) ∧ W.cell? (x.add (i * 2 + 1)) = some (.int .i64 q.At) := fun i hi => by
      obtain ⟨g0, g1, g2, g3⟩ := hc i (by omega)
      obtain ⟨k, e0, _⟩ := DataW.trod_int u0 g2
      obtain ⟨k', e1, _⟩ := DataW.trod_int u1 g3
      injection e0 with e0
      injection e1 with e1
      exact ⟨⟨k, k'⟩, by rw [g0, e0], by rw [g1, e1]⟩
    by_cases h0 : len = 0
    · subst h0
      exact ⟨[], some x, cap, rfl, Nat.zero_le _, hm, .inl rfl⟩
    · obtain ⟨g, off, sp⟩ := x
      have hsp : sp = none := by
        obtain ⟨q, h1, _⟩ := each 0 (by omega)
        cases sp with
        | none => rfl
        | some s =>
          rw [Nat.zero_mul] at h1
          simp [Addr.add, World.cell?] at h1
          split at h1 <;> cases h1
      subst hsp
      have each' : ∀ i : Fin len, ∃ q : Pair, W.cell? ⟨g, off + i.1 * 2, none⟩ = some (.int .i64 q.K) ∧ W.cell? ⟨g, off + i.1 * 2 + 1, none⟩ = some (.int .i64 q.At) := fun i => by
        obtain ⟨q, h1, h2⟩ := each i.1 i.2
        refine ⟨q, ?_, ?_⟩
        · rw [← h1]
          unfold Addr.add
          split
          · rename_i e; rw [e]; rfl
          · rfl
        · rw [← h2]
          unfold Addr.add
          rw [if_neg (by omega)]
          rfl
      obtain ⟨q, hq⟩ := Classical.axiomOfChoice each'
      refine ⟨List.ofFn q, some ⟨g, off, none⟩, cap, by rw [List.length_ofFn], by rw [List.length_ofFn]; exact hl, hm, .inr ⟨g, off, rfl, fun i p hi j u hj => ?_⟩⟩
      rw [List.getElem?_ofFn] at hi
      split at hi
      · rename_i hlt
        injection hi with hi
        subst hi
        obtain ⟨h1, h2⟩ := hq ⟨i, hlt⟩
        match j, hj with
        | 0, hj => injection hj with hj; rw [← hj]; exact h1
        | 1, hj => injection hj with hj; rw [← hj]; exact h2
      · cases hi
end
end Go.Proofs.Ytggohplddejniaa
