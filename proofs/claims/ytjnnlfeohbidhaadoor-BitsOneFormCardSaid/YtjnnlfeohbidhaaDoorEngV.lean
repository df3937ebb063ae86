import Derived.Test.YtjnnlfeohbidhaaDoorEngU
import Derived.Below
import Derived.KernelRfl
import Derived.SizedLaws
import Derived.WalkKit
import Derived.ProofKit
import Derived.OpenShut
import Derived.Deep.SlicePairs
namespace Go.Proofs.YtjnnlfeohbidhaaDoor
open Go Go.Proofs Go.ChangeShapes Go.WideShapes Go.ChangeAt Go.RowKit
section
variable {X : Type} {H : Type} {enc : TypeId × Value → H} {P : Program} {W : World} {base : Nat} {spare : Nat → Bool} {held : Bool} {t e : TypeId} {v : Value} {d : DataW H} {ps : List MemPlace} {r : Reach} {b0 : Nat}
/-- The reader of a slice that is handed in: what it reads as, and its data element by element. -/
theorem rd_gen (E : Elem X) (hu : P.underlying t = some (.slice e)) (ce : P.cellsOf e = E.sz) (hval : Value.okWide P W r b0 t v) (h : DataW.Trod enc P W base spare held t v d ps)
    (read : ∀ n cs x, DataW.trod enc P W base spare held n e cs = some x → ∃ q, E.enc q = cs) :
    ∃ xs : List X, Rd E W v xs ∧ ((d = .nil ∧ xs = []) ∨ ∃ (D : Nat → DataW H) (rest : List (DataW H)), d = .slice ((List.range xs.length).map D) rest ∧ ∀ i q, xs[i]? = some q → ∃ n pl, DataW.trod enc P W base spare held n e (E.enc q) = some (D i, pl)) := by
  obtain ⟨a, len, cap, rfl⟩ := okWide_slice hu hval
  obtain ⟨fuel, hf⟩ := h
  rcases Go.Deep.open_slice hu hf with ⟨hcs, hx⟩ | ⟨x, l, c, m, n, D, Pl, hcs, _, hl, hm, hmm, hx, hc⟩
  · simp [Value.cells] at hcs
    obtain ⟨rfl, rfl, rfl⟩ := hcs
    exact ⟨[], ⟨none, 0, rfl, Nat.le_refl _, by decide, .inl rfl⟩, .inl ⟨(Prod.mk.inj hx).1, rfl⟩⟩
  · simp [Value.cells] at hcs
    obtain ⟨rfl, rfl, rfl⟩ := hcs
    have hlm : len ≤ m := by rw [hmm]; split <;> omega
    obtain ⟨hx1, _⟩ := Prod.mk.inj hx
    have each : ∀ i : Fin len, ∃ q : X, (∀ j u, (E.enc q)[j]? = some u → W.cell? ((x.add (i.1 * E.sz)).add j) = some u) ∧ DataW.trod enc P W base spare held n e (E.enc q) = some (D i.1, Pl i.1) := fun i => by
      obtain ⟨cs', h1, h2⟩ := hc i.1 (by omega)
      obtain ⟨q, rfl⟩ := read _ _ _ h2
      rw [ce] at h1
      obtain ⟨_, hlen, hcell⟩ := World.cells?_some h1
      refine ⟨q, fun j u hj => ?_, h2⟩
      have hj' : j < E.sz := by
        have := (List.getElem?_eq_some_iff.1 hj).1
        rwa [E.len] at this
      have := hcell j hj'
      rw [this, hj]
    obtain ⟨q, hq⟩ := Classical.axiomOfChoice each
    by_cases h0 : len = 0
    · subst h0
      refine ⟨[], ⟨some x, cap, rfl, Nat.zero_le _, hm, .inl rfl⟩, .inr ⟨D, _, hx1, fun i q hq => by simp at hq⟩⟩
    · obtain ⟨g, off, sp⟩ := x
      have hsp : sp = none := by
        obtain ⟨z, hz⟩ : ∃ z : Fin len, z.1 = 0 := ⟨⟨0, Nat.pos_of_ne_zero h0⟩, rfl⟩
        obtain ⟨h1, _⟩ := hq z
        cases sp with
        | none => rfl
        | some s =>
          have hpos : 0 < (E.enc (q z)).length := by rw [E.len]; exact E.pos
          have h2 := h1 0 _ (List.getElem?_eq_getElem hpos)
          rw [hz, Nat.zero_mul] at h2
          simp [Addr.add, World.cell?] at h2
          split at h2 <;> cases h2
      subst hsp
      have hln : (List.ofFn q).length = len := List.length_ofFn
      refine ⟨List.ofFn q, ⟨some ⟨g, off, none⟩, cap, by rw [hln], by rw [hln]; exact hl, hm, .inr ⟨g, off, rfl, fun i p hi j u hj => ?_⟩⟩, .inr ⟨D, _, by rw [hln]; exact hx1, fun i p hi => ?_⟩⟩
      · rw [List.getElem?_ofFn] at hi
        split at hi
        · rename_i hlt
          injection hi with hi
          subst hi
          have := (hq ⟨i, hlt⟩).1 j u hj
          rwa [add_lit, add_lit] at this
        · cases hi
      · rw [List.getElem?_ofFn] at hi
        split at hi
        · rename_i hlt
          injection hi with hi
          subst hi
          exact ⟨_, _, (hq ⟨i, hlt⟩).2⟩
        · cases hi
end
end Go.Proofs.YtjnnlfeohbidhaaDoor
