import Derived.Test.YtjnnlfeohbidhaaDoorL12
namespace Go.Proofs.YtjnnlfeohbidhaaDoor
open Go Go.Proofs Go.ChangeShapes Go.WideShapes Go.ChangeAt Go.RowKit
set_option maxRecDepth 100000
section
variable {H : Type} {enc : TypeId × Value → H} {w : World} {base : Nat} {spare : Nat → Bool} {held : Bool} {r : Reach} {b0 : Nat} {v : Value} {d : DataW H} {p : List MemPlace}
theorem raw_bool {n i : Nat} {cs : List Value} {y : DataW H × List MemPlace} (h : DataW.trod enc Tryd.prog w base spare held n 4 ((cs.drop i).take (Tryd.prog.cellsOf 4)) = some y) : ∃ b : Bool, cs[i]? = some (.bool b) := by
  rw [show Tryd.prog.cellsOf 4 = 1 by kernel_rfl] at h
  obtain ⟨b, e0, _⟩ := DataW.trod_bool Tryd.underlying4 h
  exact ⟨b, cut1 e0⟩
theorem read_op : ∀ n cs x, DataW.trod enc Tryd.prog w base spare held n 62 cs = some x → ∃ q : OpM, opE.enc q = cs ∧ -9223372036854775808 ≤ q.m ∧ q.m ≤ 9223372036854775807 := by
  intro n cs x hf
  obtain ⟨xs, k, hk, hx, hl, hlen, hg⟩ := DataW.trod_struct Tryd.underlying62 hf
  have hl : cs.length = 3 := hl.trans (by kernel_rfl)
  match xs, hlen, hg with
  | [y0, y1, y2], _, hg =>
    obtain ⟨a0, e0, _⟩ := raw_int (cs := cs) (hg 0 _ rfl)
    obtain ⟨a1, e1⟩ := raw_bool (cs := cs) (hg 1 _ rfl)
    obtain ⟨a2, e2, w2⟩ := raw_int (cs := cs) (hg 2 _ rfl)
    match cs, hl, e0, e1, e2 with
    | [_, _, _], _, e0, e1, e2 =>
      cases e0; cases e1; cases e2
      exact ⟨⟨a0, a1, a2⟩, rfl, (wf_i64 w2).1, (wf_i64 w2).2⟩
theorem arg_ops (hv : Value.okWide Tryd.prog w r b0 58 v) (h : DataW.Trod enc Tryd.prog w base spare held 58 v d p) :
    ∃ xs : List OpM, Rd opE w v xs ∧ (∀ o ∈ xs, -9223372036854775808 ≤ o.m ∧ o.m ≤ 9223372036854775807) ∧ ((d = .nil ∧ xs = []) ∨ ∃ (D : Nat → DataW H) (rest : List (DataW H)), d = .slice ((List.range xs.length).map D) rest) := by
  obtain ⟨xs, h1, h2⟩ := rd_gen opE Tryd.underlying58 (by kernel_rfl) hv h (fun n cs x hf => by obtain ⟨q, e, _⟩ := read_op n cs x hf; exact ⟨q, e⟩)
  refine ⟨xs, h1, fun x hx => ?_, h2.imp id fun ⟨D, rest, e, _⟩ => ⟨D, rest, e⟩⟩
  rcases h2 with ⟨_, rfl⟩ | ⟨D, rest, _, hd⟩
  · cases hx
  · obtain ⟨i, hi⟩ := List.mem_iff_getElem?.1 hx
    obtain ⟨n, pl, ht⟩ := hd i x hi
    obtain ⟨q, e, h3⟩ := read_op n _ _ ht
    obtain ⟨k, s, m⟩ := q
    obtain ⟨k0, s0, m0⟩ := x
    simp only [opE, List.cons.injEq, Value.int.injEq, Value.bool.injEq, true_and, and_true] at e
    obtain ⟨rfl, rfl, rfl⟩ := e
    exact h3
theorem ops_bulk {xs : List OpM} (dd : (d = .nil ∧ xs = []) ∨ ∃ (D : Nat → DataW H) (rest : List (DataW H)), d = .slice ((List.range xs.length).map D) rest) : xs.length ≤ Rows.uptoBulk d := by
  rcases dd with ⟨_, rfl⟩ | ⟨D, rest, rfl⟩
  · exact Nat.zero_le _
  · have := bulk_all ((List.range xs.length).map D)
    simp only [List.length_map, List.length_range] at this
    simp only [Rows.uptoBulk]
    omega
end
end Go.Proofs.YtjnnlfeohbidhaaDoor
