import Derived.Test.YtbfmmgbfliebhaaN13
import Derived.Test.YtbfmmgbfliebhaaRows
import Derived.Below
import Derived.KernelRfl
import Derived.SizedLaws
import Derived.WalkKit
import Derived.ProofKit
import Derived.OpenShut
import Derived.Deep.SlicePairs
namespace Go.Proofs.Ytbfmmgbfliebhaa
open Go Go.Proofs Go.ChangeShapes Go.WideShapes Go.ChangeAt Go.RowKit
set_option maxRecDepth 100000
theorem own : ownKnob Try.prog.godebug = none := by kernel_rfl
theorem laidOut : laidOutB Try.prog = true := by kernel_rfl
theorem But.below {w w' : World} (h : But w w' nowhere) : Below w.heap.size w w' := ⟨h.os, h.tape, h.output, h.size, fun k hk => h.blk k hk id⟩
section
variable {X : Type} {H : Type} {enc : TypeId × Value → H} {P : Program} {W : World} {base : Nat} {spare : Nat → Bool} {held : Bool} {t e : TypeId} {d : DataW H} {ps : List MemPlace}
/-- The reader of a slice that lies in a cell. -/
theorem rd_raw (E : Elem X) {fuel : Nat} {v : Value} (hu : P.underlying t = some (.slice e)) (ce : P.cellsOf e = E.sz) (hf : DataW.trod enc P W base spare held fuel t [v] = some (d, ps))
    (read : ∀ n cs x, DataW.trod enc P W base spare held n e cs = some x → ∃ q, E.enc q = cs) :
    ∃ xs : List X, Rd E W v xs ∧ ((d = .nil ∧ xs = []) ∨ ∃ (D : Nat → DataW H) (rest : List (DataW H)), d = .slice ((List.range xs.length).map D) rest ∧ ∀ i q, xs[i]? = some q → ∃ n pl, DataW.trod enc P W base spare held n e (E.enc q) = some (D i, pl)) := by
  rcases Go.Deep.open_slice hu hf with ⟨hcs, hx⟩ | ⟨x, l, c, m, n, D, Pl, hcs, _, hl, hm, hmm, hx, hc⟩
  · injection hcs with hcs
    subst hcs
    exact ⟨[], ⟨none, 0, rfl, Nat.le_refl _, by decide, .inl rfl⟩, .inl ⟨(Prod.mk.inj hx).1, rfl⟩⟩
  · injection hcs with hcs
    subst hcs
    have hval : Value.okWide P W .any 0 t (.slice (some x) l c) ∨ True := .inr trivial
    have hlm : l ≤ m := by rw [hmm]; split <;> omega
    obtain ⟨hx1, _⟩ := Prod.mk.inj hx
    have each : ∀ i : Fin l, ∃ q : X, (∀ j u, (E.enc q)[j]? = some u → W.cell? ((x.add (i.1 * E.sz)).add j) = some u) ∧ DataW.trod enc P W base spare held n e (E.enc q) = some (D i.1, Pl i.1) := fun i => by
      obtain ⟨cs', h1, h2⟩ := hc i.1 (by omega)
      obtain ⟨q, rfl⟩ := read _ _ _ h2
      rw [ce] at h1
      obtain ⟨_, hlen, hcell⟩ := World.cells?_some h1
      refine ⟨q, fun j u hj => ?_, h2⟩
      have hj' : j < E.sz := by
        have := (List.getElem?_eq_some_iff.1 hj).1
        rwa [E.len] at this
      have := hcell j hj'
      rw [this, hj]
    obtain ⟨q, hq⟩ := Classical.axiomOfChoice each
    by_cases h0 : l = 0
    · subst h0
      refine ⟨[], ⟨some x, c, rfl, Nat.zero_le _, hm, .inl rfl⟩, .inr ⟨D, _, hx1, fun i q hq => by simp at hq⟩⟩
    · obtain ⟨g, off, sp⟩ := x
      have hsp : sp = none := by
        obtain ⟨z, hz⟩ : ∃ z : Fin l, z.1 = 0 := ⟨⟨0, Nat.pos_of_ne_zero h0⟩, rfl⟩
        obtain ⟨h1, _⟩ := hq z
        cases sp with
        | none => rfl
        | some s =>
          have hpos : 0 < (E.enc (q z)).length := by rw [E.len]; exact E.pos
          have h2 := h1 0 _ (List.getElem?_eq_getElem hpos)
          rw [hz, Nat.zero_mul] at h2
          simp [Addr.add, World.cell?] at h2
          split at h2 <;> cases h2
      subst hsp
      have hln : (List.ofFn q).length = l := List.length_ofFn
      refine ⟨List.ofFn q, ⟨some ⟨g, off, none⟩, c, by rw [hln], by rw [hln]; exact hl, hm, .inr ⟨g, off, rfl, fun i p hi j u hj => ?_⟩⟩, .inr ⟨D, _, by rw [hln]; exact hx1, fun i p hi => ?_⟩⟩
      · rw [List.getElem?_ofFn] at hi
        split at hi
        · rename_i hlt
          injection hi with hi
          subst hi
          have := (hq ⟨i, hlt⟩).1 j u hj
          rwa [add_lit, add_lit] at this
        · cases hi
      · rw [List.getElem?_ofFn] at hi
        split at hi
        · rename_i hlt
          injection hi with hi
          subst hi
          exact ⟨_, _, (hq ⟨i, hlt⟩).2⟩
        · cases hi
end
section
variable {H : Type} {enc : TypeId × Value → H} {w : World} {base : Nat} {spare : Nat → Bool} {held : Bool} {r : Reach} {b0 : Nat} {v : Value} {d : DataW H} {p : List MemPlace}
theorem cut1 {α : Type} {cs : List α} {i : Nat} {v : α} (h : (cs.drop i).take 1 = [v]) : cs[i]? = some v := by
  have := congrArg (fun l : List α => l[0]?) h
  simpa [List.getElem?_drop] using this
theorem wf_i64 {a : Int} (h : (Lit.int .i64 a).wf = true) : -9223372036854775808 ≤ a ∧ a ≤ 9223372036854775807 := by
  simp [Lit.wf, IntKind.min, IntKind.max, IntKind.signed, IntKind.bits] at h
  omega
theorem wf_u64x {a : Int} (h : (Lit.int .u64 a).wf = true) : 0 ≤ a ∧ a ≤ 18446744073709551615 := by
  simp [Lit.wf, IntKind.min, IntKind.max, IntKind.signed, IntKind.bits] at h
  omega
theorem read_byte : ∀ n cs x, DataW.trod enc Try.prog w base spare held n 5 cs = some x → ∃ q, byteE.enc q = cs := by
  intro n cs x hf
  obtain ⟨a, e0, _, _⟩ := DataW.trod_int Try.underlying5 hf
  exact ⟨a, e0.symm⟩
theorem arg_bytes (hv : Value.okWide Try.prog w r b0 33 v) (h : DataW.Trod enc Try.prog w base spare held 33 v d p) :
    ∃ bs, Rd byteE w v bs ∧ ((d = .nil ∧ bs = []) ∨ ∃ (D : Nat → DataW H) (rest : List (DataW H)), d = .slice ((List.range bs.length).map D) rest) := by
  obtain ⟨bs, h1, h2⟩ := rd_gen byteE Try.underlying33 (by kernel_rfl) hv h read_byte
  exact ⟨bs, h1, h2.imp id fun ⟨D, rest, e, _⟩ => ⟨D, rest, e⟩⟩
theorem bytes_len {ts : List TypeId} {ds : List (DataW H)} {jj : Nat} {bs : List Int} (hsz : (DataW.weightsEach Try.prog ts ds).all (· ≤ reachBytes) = true) (htj : ts[jj]? = some 33) (hdj : ds[jj]? = some d)
    (dd : (d = .nil ∧ bs = []) ∨ ∃ (D : Nat → DataW H) (rest : List (DataW H)), d = .slice ((List.range bs.length).map D) rest) : bs.length ≤ 140737488351232 := by
  rcases dd with ⟨_, rfl⟩ | ⟨D, rest, rfl⟩
  · exact Nat.zero_le _
  · have z := sized_slice hsz htj hdj Try.underlying33
    rw [show Try.prog.bytesOf 5 = 1 by kernel_rfl] at z
    simp only [List.length_map, List.length_range] at z
    have hr : reachBytes = 140737488351232 := by decide
    omega
theorem raw_int {n i : Nat} {cs : List Value} {y : DataW H × List MemPlace} (h : DataW.trod enc Try.prog w base spare held n 3 ((cs.drop i).take (Try.prog.cellsOf 3)) = some y) : ∃ a : Int, cs[i]? = some (.int .i64 a) ∧ (Lit.int .i64 a).wf = true := by
  rw [show Try.prog.cellsOf 3 = 1 by kernel_rfl] at h
  obtain ⟨a, e0, _, wf⟩ := DataW.trod_int Try.underlying3 h
  exact ⟨a, cut1 e0, wf⟩
theorem raw_bytes {n i : Nat} {cs : List Value} {y : DataW H × List MemPlace} (hi : i < cs.length) (h : DataW.trod enc Try.prog w base spare held n 33 ((cs.drop i).take (Try.prog.cellsOf 33)) = some y) :
    ∃ (sl : SlV) (bs : List Int), cs[i]? = some sl.v ∧ Rd byteE w sl.v bs ∧ ((∀ m ∈ y.1.weights Try.prog 33, m ≤ reachBytes) → bs.length ≤ 140737488351232) := by
  rw [show Try.prog.cellsOf 33 = 1 by kernel_rfl] at h
  have e1 : (cs.drop i).take 1 = [cs[i]] := by rw [List.drop_eq_getElem_cons hi]; rfl
  rw [e1] at h
  obtain ⟨dd, pp⟩ := y
  obtain ⟨bs, h1, h2⟩ := rd_raw byteE Try.underlying33 (by kernel_rfl) h read_byte
  obtain ⟨a, c, e2, h3⟩ := id h1
  refine ⟨⟨a, bs.length, c⟩, bs, by rw [List.getElem?_eq_getElem hi, e2]; rfl, by rw [e2] at h1; exact h1, fun hw => ?_⟩
  rcases h2 with ⟨_, rfl⟩ | ⟨D, rest, hd, _⟩
  · exact Nat.zero_le _
  · dsimp only at hw
    subst hd
    simp only [DataW.weights, Try.underlying33] at hw
    have := hw _ List.mem_cons_self
    rw [show Try.prog.bytesOf 5 = 1 by kernel_rfl] at this
    simp only [List.length_map, List.length_range] at this
    have hr : reachBytes = 140737488351232 := by decide
    omega
theorem weights_all {P : Program} {t : TypeId} : ∀ {l : List (DataW H)} {d : DataW H}, d ∈ l → ∀ m ∈ d.weights P t, m ∈ DataW.weightsAll P t l
  | [], _, h, _, _ => by cases h
  | d0 :: l, d, h, m, hm => by
    simp only [DataW.weightsAll, List.mem_append]
    rcases List.mem_cons.1 h with rfl | h
    · exact .inl hm
    · exact .inr (weights_all h m hm)
/-- The elements of a slice that is handed in weigh no more than may be. -/
theorem elem_weights {ts : List TypeId} {ds : List (DataW H)} {jj : Nat} {t e : TypeId} {n : Nat} {D : Nat → DataW H} {rest : List (DataW H)} (hsz : (DataW.weightsEach Try.prog ts ds).all (· ≤ reachBytes) = true) (htj : ts[jj]? = some t) (hdj : ds[jj]? = some (.slice ((List.range n).map D) rest)) (hu : Try.prog.underlying t = some (.slice e)) {i : Nat} (hi : i < n) :
    ∀ m ∈ (D i).weights Try.prog e, m ≤ reachBytes := fun m hm => by
  have h1 : m ∈ (DataW.slice ((List.range n).map D) rest).weights Try.prog t := by
    simp only [DataW.weights, hu]
    refine List.mem_cons_of_mem _ (List.mem_append_left _ (weights_all (d := D i) ?_ m hm))
    exact List.mem_map.2 ⟨i, List.mem_range.2 hi, rfl⟩
  have := List.all_eq_true.1 hsz _ (DataW.weights_mem_each htj hdj m h1)
  simpa using this
/-- Elements beside what they hold. -/
theorem zip_elems {X Y : Type} {R : X → Y → Prop} : ∀ (l : List X), (∀ q ∈ l, ∃ y, R q y) → ∃ xs : List (X × Y), xs.map (·.1) = l ∧ ∀ q ∈ xs, R q.1 q.2
  | [], _ => ⟨[], rfl, fun q hq => by cases hq⟩
  | q :: l, h => by
    obtain ⟨y, hy⟩ := h q List.mem_cons_self
    obtain ⟨xs, e, hr⟩ := zip_elems l (fun q hq => h q (List.mem_cons_of_mem _ hq))
    refine ⟨(q, y) :: xs, by rw [List.map_cons, e], fun z hz => ?_⟩
    rcases List.mem_cons.1 hz with rfl | hz
    · exact hy
    · exact hr z hz
theorem slE_inj {a b : SlV} (h : slE.enc a = slE.enc b) : a = b := by
  cases a; cases b
  simp only [slE, SlV.v, List.cons.injEq, Value.slice.injEq, and_true] at h
  obtain ⟨rfl, rfl, rfl⟩ := h
  rfl
theorem read_lst : ∀ n cs x, DataW.trod enc Try.prog w base spare held n 33 cs = some x → ∃ (q : SlV) (ds : List Int), slE.enc q = cs ∧ Rd byteE w q.v ds ∧ ((∀ m ∈ x.1.weights Try.prog 33, m ≤ reachBytes) → ds.length ≤ 140737488351232) := by
  intro n cs x hf
  have hl : cs.length = 1 := by
    obtain ⟨dd, pp⟩ := x
    rcases Go.Deep.open_slice Try.underlying33 hf with ⟨hcs, _⟩ | ⟨_, _, _, _, _, _, _, hcs, _⟩ <;> (rw [hcs]; rfl)
  match cs, hl with
  | [c], _ =>
    have h2 : DataW.trod enc Try.prog w base spare held n 33 (([c].drop 0).take (Try.prog.cellsOf 33)) = some x := by
      rw [show Try.prog.cellsOf 33 = 1 by kernel_rfl]
      exact hf
    obtain ⟨sl, bs, e, h3, h4⟩ := raw_bytes (cs := [c]) (i := 0) (by show 0 < 1; omega) h2
    injection e with e
    exact ⟨sl, bs, by rw [e]; rfl, h3, h4⟩
theorem arg_lists (hv : Value.okWide Try.prog w r b0 29 v) (h : DataW.Trod enc Try.prog w base spare held 29 v d p) {ts : List TypeId} {ds : List (DataW H)} {jj : Nat} (hsz : (DataW.weightsEach Try.prog ts ds).all (· ≤ reachBytes) = true) (htj : ts[jj]? = some 29) (hdj : ds[jj]? = some d) :
    ∃ xs : List (SlV × List Int), Rd slE w v (xs.map (·.1)) ∧ (∀ q ∈ xs, LstR w q) ∧ True := by
  obtain ⟨ls, h1, h2⟩ := rd_gen slE Try.underlying29 (by kernel_rfl) hv h (fun n cs x hf => by obtain ⟨q, _, e, _⟩ := read_lst n cs x hf; exact ⟨q, e⟩)
  rcases h2 with ⟨_, rfl⟩ | ⟨D, rest, rfl, hd⟩
  · exact ⟨[], h1, (fun q hq => by cases hq), trivial⟩
  · obtain ⟨xs, e, hr⟩ := zip_elems (R := fun (q : SlV) (ds : List Int) => LstR w (q, ds)) ls (fun q hq => by
      obtain ⟨i, hi⟩ := List.mem_iff_getElem?.1 hq
      obtain ⟨n, pl, ht⟩ := hd i q hi
      obtain ⟨q', ds', e, h3, h4⟩ := read_lst n _ _ ht
      obtain rfl := slE_inj e
      exact ⟨ds', h3, h4 (elem_weights hsz htj hdj Try.underlying29 (List.getElem?_eq_some_iff.1 hi).1)⟩)
    exact ⟨xs, by rw [e]; exact h1, hr, trivial⟩
end
end Go.Proofs.Ytbfmmgbfliebhaa
