import Derived.Test.YtbfmmgbfliebhaaN21
import Derived.Test.YtbfmmgbfliebhaaArg
namespace Go.Proofs.Ytbfmmgbfliebhaa
open Go Go.Proofs Go.ChangeShapes Go.WideShapes Go.ChangeAt Go.RowKit
set_option maxRecDepth 100000
section
variable {H : Type} {enc : TypeId × Value → H} {w : World} {base : Nat} {spare : Nat → Bool} {held : Bool} {r : Reach} {b0 : Nat} {v : Value} {d : DataW H} {p : List MemPlace}
theorem opE_inj {a b : OpN} (h : opE.enc a = opE.enc b) : a = b := by
  obtain ⟨a1, a2, a3, a4, a5, a6, ⟨x, y, z⟩, a7⟩ := a
  obtain ⟨b1, b2, b3, b4, b5, b6, ⟨x', y', z'⟩, b7⟩ := b
  simp only [opE, SlV.v, List.cons.injEq, Value.slice.injEq, Value.int.injEq, true_and, and_true] at h
  obtain ⟨rfl, rfl, rfl, rfl, rfl, rfl, ⟨rfl, rfl, rfl⟩, rfl⟩ := h
  rfl
theorem read_op : ∀ n cs x, DataW.trod enc Try.prog w base spare held n 35 cs = some x → ∃ (q : OpN) (ds : List Int), opE.enc q = cs ∧ Rd byteE w q.sl.v ds ∧ ((∀ m ∈ x.1.weights Try.prog 35, m ≤ reachBytes) → ds.length ≤ 140737488351232) := by
  intro n cs x hf
  obtain ⟨xs, k, hk, hx, hl, hlen, hg⟩ := DataW.trod_struct Try.underlying35 hf
  have hl : cs.length = 8 := hl.trans (by kernel_rfl)
  match xs, hlen, hg with
  | [y0, y1, y2, y3, y4, y5, y6, y7], _, hg =>
    obtain ⟨a0, e0, _⟩ := raw_int (cs := cs) (hg 0 _ rfl)
    obtain ⟨a1, e1, _⟩ := raw_int (cs := cs) (hg 1 _ rfl)
    obtain ⟨a2, e2, _⟩ := raw_int (cs := cs) (hg 2 _ rfl)
    obtain ⟨a3, e3, _⟩ := raw_int (cs := cs) (hg 3 _ rfl)
    obtain ⟨a4, e4, _⟩ := raw_int (cs := cs) (hg 4 _ rfl)
    obtain ⟨a5, e5, _⟩ := raw_int (cs := cs) (hg 5 _ rfl)
    obtain ⟨sl, bs, e6, h3, h5⟩ := raw_bytes (cs := cs) (i := 6) (by omega) (hg 6 _ rfl)
    obtain ⟨a7, e7, _⟩ := raw_int (cs := cs) (hg 7 _ rfl)
    match cs, hl, e0, e1, e2, e3, e4, e5, e6, e7 with
    | [_, _, _, _, _, _, _, _], _, e0, e1, e2, e3, e4, e5, e6, e7 =>
      cases e0; cases e1; cases e2; cases e3; cases e4; cases e5; cases e6; cases e7
      refine ⟨⟨a0, a1, a2, a3, a4, a5, sl, a7⟩, bs, rfl, h3, fun hw => h5 fun m hm => hw m ?_⟩
      rw [show x = _ from hx]
      simp only [DataW.weights, Try.underlying35, List.map_cons, List.map_nil]
      exact DataW.weights_mem_each (j := 6) (t := 33) (d := y6.1) rfl rfl m (by assumption)
theorem arg_ops (hv : Value.okWide Try.prog w r b0 22 v) (h : DataW.Trod enc Try.prog w base spare held 22 v d p) {ts : List TypeId} {ds : List (DataW H)} {jj : Nat} (hsz : (DataW.weightsEach Try.prog ts ds).all (· ≤ reachBytes) = true) (htj : ts[jj]? = some 22) (hdj : ds[jj]? = some d) :
    ∃ xs : List (OpN × List Int), Rd opE w v (xs.map (·.1)) ∧ (∀ q ∈ xs, OpR w q) ∧ xs.length ≤ 140737488351232 := by
  obtain ⟨ls, h1, h2⟩ := rd_gen opE Try.underlying22 (by kernel_rfl) hv h (fun n cs x hf => by obtain ⟨q, _, e, _⟩ := read_op n cs x hf; exact ⟨q, e⟩)
  rcases h2 with ⟨_, rfl⟩ | ⟨D, rest, rfl, hd⟩
  · exact ⟨[], h1, (fun q hq => by cases hq), Nat.zero_le _⟩
  · obtain ⟨xs, e, hr⟩ := zip_elems (R := fun (q : OpN) (ds : List Int) => OpR w (q, ds)) ls (fun q hq => by
      obtain ⟨i, hi⟩ := List.mem_iff_getElem?.1 hq
      obtain ⟨n, pl, ht⟩ := hd i q hi
      obtain ⟨q', ds', e, h3, h4⟩ := read_op n _ _ ht
      obtain rfl := opE_inj e
      exact ⟨ds', h3, h4 (elem_weights hsz htj hdj Try.underlying22 (List.getElem?_eq_some_iff.1 hi).1)⟩)
    refine ⟨xs, by rw [e]; exact h1, hr, ?_⟩
    have z := sized_slice hsz htj hdj Try.underlying22
    rw [show Try.prog.bytesOf 35 = 80 by kernel_rfl] at z
    simp only [List.length_map, List.length_range] at z
    have hr' : reachBytes = 140737488351232 := by decide
    have : xs.length = ls.length := by rw [← e, List.length_map]
    omega
end
end Go.Proofs.Ytbfmmgbfliebhaa
