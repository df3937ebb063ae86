import Derived.Test.YtbfmmgbfliebhaaEngT
import Derived.Shelf.SlSortCmp.WholeK
namespace Go.Proofs.Ytbfmmgbfliebhaa
open Go Go.Proofs Go.Shelf

/-! ### slices.SortFunc over a row of one's own -/
theorem grow_get {w : World} {os : Array Obj} {k : Nat} (h : k < w.heap.size) : (Go.Sort.grow w os).heap[k]? = w.heap[k]? := by
  show (w.heap ++ os)[k]? = _
  rw [Array.getElem?_append_left h]
theorem row_holdsK {X : Type} [Inhabited X] {E : Elem X} {T g : Nat} {xs : List X} {w : World} {cur : Array Value} (hb : w.heap[g]? = some (.cells cur T (0, 0))) (hc : ∀ i x, xs[i]? = some x → ∀ j v, (E.enc x)[j]? = some v → cur[i * E.sz + j]? = some v) : Go.Sort.HoldsK E.enc E.sz w g 0 xs.toArray := by
  intro j hj
  rw [Go.Sort.size_flatK, List.size_toArray] at hj
  have hp := E.pos
  have h1 : j / E.sz < xs.length := (Nat.div_lt_iff_lt_mul hp).2 hj
  have h2 : j % E.sz < E.sz := Nat.mod_lt _ hp
  rw [Nat.zero_add]
  refine ⟨?_, ?_⟩
  · rw [blk_cell hb, Go.Sort.get_flatK _ _ _ _ (by rw [List.size_toArray]; exact hj)]
    have h3 : xs[j / E.sz]? = some xs[j / E.sz] := List.getElem?_eq_getElem h1
    have h4 : (E.enc xs[j / E.sz])[j % E.sz]? = some (E.enc xs[j / E.sz])[j % E.sz]! := by
      have : j % E.sz < (E.enc xs[j / E.sz]).length := by rw [E.len]; exact h2
      rw [List.getElem!_eq_getElem?_getD, List.getElem?_eq_getElem this]
      rfl
    have h5 := hc _ _ h3 _ _ h4
    rw [Nat.mul_comm, Nat.div_add_mod] at h5
    rw [h5]
    congr 1
    have h6 : xs.toArray[j / E.sz]! = xs[j / E.sz] := by
      rw [getElem!_pos _ _ (by rw [List.size_toArray]; exact h1)]
      simp
    rw [h6]
    rfl
  · simp [World.frozen?, hb]
set_option maxHeartbeats 1000000 in
theorem sortK_spec {X : Type} [Inhabited X] {P : Program} {ρ : Ren} (LL : SlLaysF0.n6 P ρ) (E : Elem X) (T : Nat) (aE : ∀ w, (isAgg (ρ.t 24)).run P w = .ok true w) (zE : ∀ w, (Go.sizeOf (ρ.t 24)).run P w = .ok E.sz w)
    (cf : X → X → Int) (hO : Go.Sort.SWO (ltOf cf)) (g0 : Nat) (eg : ∀ args w, (callFunc g0 args).run P w = .ok (.enter g0 args) w)
    (hcmp : ∀ x y W, Calls P g0 #[.agg (E.enc x).toArray, .agg (E.enc y).toArray] W fun e w' => e = .returned (.int .i64 (cf x y)) ∧ ∃ q os', w' = Go.Sort.grow (W.drewN q) os')
    {g cap : Nat} {xs : List X} (hsz : xs.length < 4611686018427387904) :
    Spec P (ρ.f 6) [.slice (some ⟨g, 0, none⟩) xs.length cap, .func (.func g0) #[] #[]] [Row E T g cap xs] (fun u M => u = .tuple #[] ∧ ∃ xs' : List X, xs'.Perm xs ∧ xs'.Pairwise (fun a b => ltOf cf b a = false) ∧ xs'.length = xs.length ∧ M = [Row E T g cap xs']) := fun w F hs => by
  obtain ⟨F1, F2, ⟨f1, cur, hb, h3, h4, h5, h6⟩, _, _, hu⟩ := hs
  have hlt : g < w.heap.size := (Array.getElem?_eq_some_iff.1 hb).1
  have hcon := AnyQ.slices_SortFunc LL E.sz aE zE E.enc E.len E.one cf hO g0 #[] g 0 cap xs.toArray w eg (fun m os dk _ x y => by
    simpa using hcmp x y (sortWorldK E.enc E.sz w g 0 m dk os)) (row_holdsK hb h6) hlt (by rw [List.size_toArray]; exact hsz)
  rw [List.size_toArray] at hcon
  refine hcon.mono ?_
  rintro e w' ⟨rfl, d', n, os, hp, hsd, rfl⟩
  obtain ⟨hps, _, hpp⟩ := hp
  replace hps : d'.size = xs.length := hps
  have hperm : d'.toList.Perm xs := by
    have e1 : d'.extract 0 xs.length = d' := by rw [← hps]; exact Array.extract_size
    have e2 : xs.toArray.extract 0 xs.length = xs.toArray := by
      have := Array.extract_size (xs := xs.toArray)
      rwa [List.size_toArray] at this
    rw [e1, e2] at hpp
    exact hpp
  refine ⟨_, [Row E T g cap d'.toList], rfl, ⟨rfl, d'.toList, hperm, ?_, by rw [Array.length_toList, hps], rfl⟩, ?_⟩
  · rw [List.pairwise_iff_getElem]
    intro i j hi hj hij
    rw [Array.length_toList] at hi hj
    have := hsd i j (Nat.zero_le _) hij (by rw [← hps]; exact hj)
    rw [getElem!_pos d' i hi, getElem!_pos d' j hj] at this
    simpa using this
  · have hg' : (sortWorldK E.enc E.sz w g 0 n d' os).heap[g]? = some (.cells (Go.Sort.putCells id 0 (Go.Sort.flatK E.enc E.sz d') cur) T (0, 0)) := by
      show (Go.Sort.grow (Go.Sort.mapBlock (Go.Sort.ahead w n) g _) os).heap[g]? = _
      rw [grow_get (by simp [Go.Sort.mapBlock, Go.Sort.ahead]; exact hlt)]
      simp [Go.Sort.mapBlock, Go.Sort.ahead, Array.getElem?_modify, hb, Go.Sort.onCells]
    have hbut : But w (sortWorldK E.enc E.sz w g 0 n d' os) (fun x => x = g) := by
      refine ⟨rfl, rfl, rfl, ?_, fun k hk hne => ?_⟩
      · show _ ≤ (Go.Sort.grow (Go.Sort.mapBlock (Go.Sort.ahead w n) g _) os).heap.size
        rw [Go.Sort.size_grow]
        simp [Go.Sort.mapBlock, Go.Sort.ahead]
      · show (Go.Sort.grow (Go.Sort.mapBlock (Go.Sort.ahead w n) g _) os).heap[k]? = _
        rw [grow_get (by simp [Go.Sort.mapBlock, Go.Sort.ahead]; exact hk)]
        simp [Go.Sort.mapBlock, Go.Sort.ahead, Array.getElem?_modify, Ne.symm hne]
    refine st_one (G := fun x => x = g) ⟨fun _ => Iff.rfl, _, hg', by rw [Array.length_toList, hps]; exact h3, h4, ?_, ?_⟩ ⟨hbut.os, hbut.tape, hbut.output, hbut.size, fun k hk hn => hbut.blk k hk fun e => hn (hu k (.inl (by rw [e]; exact (f1 g).2 rfl)))⟩ (fun b hb' => .inl (hu b (.inl ((f1 b).2 hb'))))
    · simp [Go.Sort.putCells, h5]
    · intro i x hx j v hv
      have hi : i < d'.size := by rw [← Array.length_toList]; exact (List.getElem?_eq_some_iff.1 hx).1
      have hj : j < E.sz := by rw [← E.len x]; exact (List.getElem?_eq_some_iff.1 hv).1
      have hk : i * E.sz + j < d'.size * E.sz := row_lt hi hj
      have hk2 : i * E.sz + j < cur.size := by
        rw [h5]
        exact row_lt (Nat.lt_of_lt_of_le (by rw [← hps]; exact hi) h3) hj
      simp only [Go.Sort.putCells, Array.getElem?_mapIdx, Array.getElem?_eq_getElem hk2, Option.map_some]
      rw [if_pos ⟨Nat.zero_le _, by rw [Go.Sort.size_flatK]; omega⟩, Nat.sub_zero, Go.Sort.get_flatK _ _ _ _ hk]
      have e1 : (i * E.sz + j) / E.sz = i := by rw [Nat.mul_comm, Nat.mul_add_div E.pos, Nat.div_eq_of_lt hj, Nat.add_zero]
      have e2 : (i * E.sz + j) % E.sz = j := by rw [Nat.mul_comm, Nat.mul_add_mod, Nat.mod_eq_of_lt hj]
      have e3 : d'[i]! = x := by
        rw [getElem!_pos d' i hi]
        rw [Array.getElem?_toList, Array.getElem?_eq_getElem hi] at hx
        exact Option.some.inj hx
      rw [e1, e2, e3]
      have hj2 : j < (E.enc x).length := by rw [E.len]; exact hj
      rw [List.getElem!_eq_getElem?_getD, hv]
      rfl
end Go.Proofs.Ytbfmmgbfliebhaa
