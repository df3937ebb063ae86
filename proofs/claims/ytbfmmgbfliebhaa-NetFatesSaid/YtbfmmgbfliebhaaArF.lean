import Derived.Test.YtbfmmgbfliebhaaN14
import Derived.Test.YtbfmmgbfliebhaaArg
namespace Go.Proofs.Ytbfmmgbfliebhaa
open Go Go.Proofs Go.ChangeShapes Go.WideShapes Go.ChangeAt Go.RowKit
set_option maxRecDepth 100000
section
variable {H : Type} {enc : TypeId × Value → H} {w : World} {base : Nat} {spare : Nat → Bool} {held : Bool} {r : Reach} {b0 : Nat} {v : Value} {d : DataW H} {p : List MemPlace}
theorem ftE_inj {a b : FtN} (h : ftE.enc a = ftE.enc b) : a = b := by
  obtain ⟨a1, a2, a3, a4, x, y, z⟩ := a
  obtain ⟨b1, b2, b3, b4, x', y', z'⟩ := b
  simp only [ftE, SlV.v, List.cons.injEq, Value.slice.injEq, Value.int.injEq, true_and, and_true] at h
  obtain ⟨rfl, rfl, rfl, rfl, rfl, rfl, rfl⟩ := h
  rfl
theorem read_fate : ∀ n cs x, DataW.trod enc Try.prog w base spare held n 65 cs = some x → ∃ (q : FtN) (ds : List Int), ftE.enc q = cs ∧ Rd byteE w q.sl.v ds ∧ ((∀ m ∈ x.1.weights Try.prog 65, m ≤ reachBytes) → ds.length ≤ 140737488351232) := by
  intro n cs x hf
  obtain ⟨xs, k, hk, hx, hl, hlen, hg⟩ := DataW.trod_struct Try.underlying65 hf
  have hl : cs.length = 5 := hl.trans (by kernel_rfl)
  match xs, hlen, hg with
  | [y0, y1, y2, y3, y4], _, hg =>
    obtain ⟨a0, e0, _⟩ := raw_int (cs := cs) (hg 0 _ rfl)
    obtain ⟨a1, e1, _⟩ := raw_int (cs := cs) (hg 1 _ rfl)
    obtain ⟨a2, e2, _⟩ := raw_int (cs := cs) (hg 2 _ rfl)
    obtain ⟨a3, e3, _⟩ := raw_int (cs := cs) (hg 3 _ rfl)
    obtain ⟨sl, bs, e4, h3, h5⟩ := raw_bytes (cs := cs) (i := 4) (by omega) (hg 4 _ rfl)
    match cs, hl, e0, e1, e2, e3, e4 with
    | [_, _, _, _, _], _, e0, e1, e2, e3, e4 =>
      cases e0; cases e1; cases e2; cases e3; cases e4
      refine ⟨⟨a0, a1, a2, a3, sl⟩, bs, rfl, h3, fun hw => h5 fun m hm => hw m ?_⟩
      rw [show x = _ from hx]
      simp only [DataW.weights, Try.underlying65, List.map_cons, List.map_nil]
      exact DataW.weights_mem_each (j := 4) (t := 33) (d := y4.1) rfl rfl m (by assumption)
theorem arg_fates (hv : Value.okWide Try.prog w r b0 63 v) (h : DataW.Trod enc Try.prog w base spare held 63 v d p) {ts : List TypeId} {ds : List (DataW H)} {jj : Nat} (hsz : (DataW.weightsEach Try.prog ts ds).all (· ≤ reachBytes) = true) (htj : ts[jj]? = some 63) (hdj : ds[jj]? = some d) :
    ∃ xs : List (FtN × List Int), Rd ftE w v (xs.map (·.1)) ∧ (∀ q ∈ xs, FtR w q) ∧ True := by
  obtain ⟨ls, h1, h2⟩ := rd_gen ftE Try.underlying63 (by kernel_rfl) hv h (fun n cs x hf => by obtain ⟨q, _, e, _⟩ := read_fate n cs x hf; exact ⟨q, e⟩)
  rcases h2 with ⟨_, rfl⟩ | ⟨D, rest, rfl, hd⟩
  · exact ⟨[], h1, (fun q hq => by cases hq), trivial⟩
  · obtain ⟨xs, e, hr⟩ := zip_elems (R := fun (q : FtN) (ds : List Int) => FtR w (q, ds)) ls (fun q hq => by
      obtain ⟨i, hi⟩ := List.mem_iff_getElem?.1 hq
      obtain ⟨n, pl, ht⟩ := hd i q hi
      obtain ⟨q', ds', e, h3, h4⟩ := read_fate n _ _ ht
      obtain rfl := ftE_inj e
      exact ⟨ds', h3, h4 (elem_weights hsz htj hdj Try.underlying63 (List.getElem?_eq_some_iff.1 hi).1)⟩)
    exact ⟨xs, by rw [e]; exact h1, hr, trivial⟩
end
end Go.Proofs.Ytbfmmgbfliebhaa
