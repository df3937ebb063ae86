import Derived.Test.YtbfmmgbfliebhaaN12
import Derived.Test.YtbfmmgbfliebhaaRows
import Derived.Below
import Derived.KernelRfl
import Derived.SizedLaws
import Derived.WalkKit
import Derived.ProofKit
import Derived.OpenShut
import Derived.Deep.SlicePairs
namespace Go.Proofs.Ytbfmmgbfliebhaa
open Go Go.Proofs Go.ChangeShapes Go.WideShapes Go.ChangeAt Go.RowKit
set_option maxRecDepth 100000
theorem own : ownKnob Try.prog.godebug = none := by kernel_rfl
theorem laidOut : laidOutB Try.prog = true := by kernel_rfl
theorem But.below {w w' : World} (h : But w w' nowhere) : Below w.heap.size w w' := ⟨h.os, h.tape, h.output, h.size, fun k hk => h.blk k hk id⟩
section
variable {X : Type} {H : Type} {enc : TypeId × Value → H} {P : Program} {W : World} {base : Nat} {spare : Nat → Bool} {held : Bool} {t e : TypeId} {d : DataW H} {ps : List MemPlace}
/-- The reader of a slice that lies in a cell. -/
theorem rd_raw (E : Elem X) {fuel : Nat} {v : Value} (hu : P.underlying t = some (.slice e)) (ce : P.cellsOf e = E.sz) (hf : DataW.trod enc P W base spare held fuel t [v] = some (d, ps))
    (read : ∀ n cs x, DataW.trod enc P W base spare held n e cs = some x → ∃ q, E.enc q = cs) :
    ∃ xs : List X, Rd E W v xs ∧ ((d = .nil ∧ xs = []) ∨ ∃ (D : Nat → DataW H) (rest : List (DataW H)), d = .slice ((List.range xs.length).map D) rest ∧ ∀ i q, xs[i]? = some q → ∃ n pl, DataW.trod enc P W base spare held n e (E.enc q) = some (D i, pl)) := by
  rcases Go.Deep.open_slice hu hf with ⟨hcs, hx⟩ | ⟨x, l, c, m, n, D, Pl, hcs, _, hl, hm, hmm, hx, hc⟩
  · injection hcs with hcs
    subst hcs
    exact ⟨[], ⟨none, 0, rfl, Nat.le_refl _, by decide, .inl rfl⟩, .inl ⟨(Prod.mk.inj hx).1, rfl⟩⟩
  · injection hcs with hcs
    subst hcs
    have hval : Value.okWide P W .any 0 t (.slice (some x) l c) ∨ True := .inr trivial
    have hlm : l ≤ m := by rw [hmm]; split <;> omega
    obtain ⟨hx1, _⟩ := Prod.mk.inj hx
    have each : ∀ i : Fin l, ∃ q : X, (∀ j u, (E.enc q)[j]? = some u → W.cell? ((x.add (i.1 * E.sz)).add j) = some u) ∧ DataW.trod enc P W base spare held n e (E.enc q) = some (D i.1, Pl i.1) := fun i => by
      obtain ⟨cs', h1, h2⟩ := hc i.1 (by omega)
      obtain ⟨q, rfl⟩ := read _ _ _ h2
      rw [ce] at h1
      obtain ⟨_, hlen, hcell⟩ := World.cells?_some h1
      refine ⟨q, fun j u hj => ?_, h2⟩
      have hj' : j < E.sz := by
        have := (List.getElem?_eq_some_iff.1 hj).1
        rwa [E.len] at this
      have := hcell j hj'
      rw [this, hj]
    obtain ⟨q, hq⟩ := Classical.axiomOfChoice each
    by_cases h0 : l = 0
    · subst h0
      refine ⟨[], ⟨some x, c, rfl, Nat.zero_le _, hm, .inl rfl⟩, .inr ⟨D, _, hx1, fun i q hq => by simp at hq⟩⟩
    · obtain ⟨g, off, sp⟩ := x
      have hsp : sp = none := by
        obtain ⟨z, hz⟩ : ∃ z : Fin l, z.1 = 0 := ⟨⟨0, Nat.pos_of_ne_zero h0⟩, rfl⟩
        obtain ⟨h1, _⟩ := hq z
        cases sp with
        | none => rfl
        | some s =>
          have hpos : 0 < (E.enc (q z)).length := by rw [E.len]; exact E.pos
          have h2 := h1 0 _ (List.getElem?_eq_getElem hpos)
          rw [hz, Nat.zero_mul] at h2
          simp [Addr.add, World.cell?] at h2
          split at h2 <;> cases h2
      subst hsp
      have hln : (List.ofFn q).length = l := List.length_ofFn
      refine ⟨List.ofFn q, ⟨some ⟨g, off, none⟩, c, by rw [hln], by rw [hln]; exact hl, hm, .inr ⟨g, off, rfl, fun i p hi j u hj => ?_⟩⟩, .inr ⟨D, _, by rw [hln]; exact hx1, fun i p hi => ?_⟩⟩
      · rw [List.getElem?_ofFn] at hi
        split at hi
        · rename_i hlt
          injection hi with hi
          subst hi
          have := (hq ⟨i, hlt⟩).1 j u hj
          rwa [add_lit, add_lit] at this
        · cases hi
      · rw [List.getElem?_ofFn] at hi
        split at hi
        · rename_i hlt
          injection hi with hi
          subst hi
          exact ⟨_, _, (hq ⟨i, hlt⟩).2⟩
        · cases hi
end
section
variable {H : Type} {enc : TypeId × Value → H} {w : World} {base : Nat} {spare : Nat → Bool} {held : Bool} {r : Reach} {b0 : Nat} {v : Value} {d : DataW H} {p : List MemPlace}
theorem cut1 {α : Type} {cs : List α} {i : Nat} {v : α} (h : (cs.drop i).take 1 = [v]) : cs[i]? = some v := by
  have := congrArg (fun l : List α => l[0]?) h
  simpa [List.getElem?_drop] using this
theorem wf_i64 {a : Int} (h : (Lit.int .i64 a).wf = true) : -9223372036854775808 ≤ a ∧ a ≤ 9223372036854775807 := by
  simp [Lit.wf, IntKind.min, IntKind.max, IntKind.signed, IntKind.bits] at h
  omega
theorem wf_u64x {a : Int} (h : (Lit.int .u64 a).wf = true) : 0 ≤ a ∧ a ≤ 18446744073709551615 := by
  simp [Lit.wf, IntKind.min, IntKind.max, IntKind.signed, IntKind.bits] at h
  omega
theorem read_byte : ∀ n cs x, DataW.trod enc Try.prog w base spare held n 5 cs = some x → ∃ q, byteE.enc q = cs := by
  intro n cs x hf
  obtain ⟨a, e0, _, _⟩ := DataW.trod_int Try.underlying5 hf
  exact ⟨a, e0.symm⟩
theorem arg_bytes (hv : Value.okWide Try.prog w r b0 33 v) (h : DataW.Trod enc Try.prog w base spare held 33 v d p) :
    ∃ bs, Rd byteE w v bs ∧ ((d = .nil ∧ bs = []) ∨ ∃ (D : Nat → DataW H) (rest : List (DataW H)), d = .slice ((List.range bs.length).map D) rest) := by
  obtain ⟨bs, h1, h2⟩ := rd_gen byteE Try.underlying33 (by kernel_rfl) hv h read_byte
  exact ⟨bs, h1, h2.imp id fun ⟨D, rest, e, _⟩ => ⟨D, rest, e⟩⟩
theorem bytes_len {ts : List TypeId} {ds : List (DataW H)} {jj : Nat} {bs : List Int} (hsz : (DataW.weightsEach Try.prog ts ds).all (· ≤ reachBytes) = true) (htj : ts[jj]? = some 33) (hdj : ds[jj]? = some d)
    (dd : (d = .nil ∧ bs = []) ∨ ∃ (D : Nat → DataW H) (rest : List (DataW H)), d = .slice ((List.range bs.length).map D) rest) : bs.length ≤ 140737488351232 := by
  rcases dd with ⟨_, rfl⟩ | ⟨D, rest, rfl⟩
  · exact Nat.zero_le _
  · have z := sized_slice hsz htj hdj Try.underlying33
    rw [show Try.prog.bytesOf 5 = 1 by kernel_rfl] at z
    simp only [List.length_map, List.length_range] at z
    have hr : reachBytes = 140737488351232 := by decide
    omega
theorem raw_int {n i : Nat} {cs : List Value} {y : DataW H × List MemPlace} (h : DataW.trod enc Try.prog w base spare held n 3 ((cs.drop i).take (Try.prog.cellsOf 3)) = some y) : ∃ a : Int, cs[i]? = some (.int .i64 a) ∧ (Lit.int .i64 a).wf = true := by
  rw [show Try.prog.cellsOf 3 = 1 by kernel_rfl] at h
  obtain ⟨a, e0, _, wf⟩ := DataW.trod_int Try.underlying3 h
  exact ⟨a, cut1 e0, wf⟩
theorem raw_bytes {n i : Nat} {cs : List Value} {y : DataW H × List MemPlace} (hi : i < cs.length) (h : DataW.trod enc Try.prog w base spare held n 33 ((cs.drop i).take (Try.prog.cellsOf 33)) = some y) :
    ∃ (sl : SlV) (bs : List Int), cs[i]? = some sl.v ∧ Rd byteE w sl.v bs ∧ ((∀ m ∈ y.1.weights Try.prog 33, m ≤ reachBytes) → bs.length ≤ 140737488351232) := by
  rw [show Try.prog.cellsOf 33 = 1 by kernel_rfl] at h
  have e1 : (cs.drop i).take 1 = [cs[i]] := by rw [List.drop_eq_getElem_cons hi]; rfl
  rw [e1] at h
  obtain ⟨dd, pp⟩ := y
  obtain ⟨bs, h1, h2⟩ := rd_raw byteE Try.underlying33 (by kernel_rfl) h read_byte
  obtain ⟨a, c, e2, h3⟩ := id h1
  refine ⟨⟨a, bs.length, c⟩, bs, by rw [List.getElem?_eq_getElem hi, e2]; rfl, by rw [e2] at h1; exact h1, fun hw => ?_⟩
  rcases h2 with ⟨_, rfl⟩ | ⟨D, rest, hd, _⟩
  · exact Nat.zero_le _
  · dsimp only at hw
    subst hd
    simp only [DataW.weights, Try.underlying33] at hw
    have := hw _ List.mem_cons_self
    rw [show Try.prog.bytesOf 5 = 1 by kernel_rfl] at this
    simp only [List.length_map, List.length_range] at this
    have hr : reachBytes = 140737488351232 := by decide
    omega
end
end Go.Proofs.Ytbfmmgbfliebhaa
