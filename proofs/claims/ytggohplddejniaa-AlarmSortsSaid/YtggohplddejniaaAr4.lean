import Derived.Test.YtggohplddejniaaS4
import Derived.Below
import Derived.SizedLaws
import Derived.WalkKit
namespace Go.Proofs.Ytggohplddejniaa
open Go Go.Proofs Go.ChangeShapes Go.WideShapes Go.ChangeAt Go.RowKit
set_option maxRecDepth 100000
section
variable {H : Type} {enc : TypeId × Value → H} {w : World} {base : Nat} {spare : Nat → Bool} {held : Bool} {r : Reach} {b0 : Nat} {v : Value} {d : DataW H} {p : List MemPlace}
theorem cut1p {α : Type} {cs : List α} {i : Nat} {v : α} (h : (cs.drop i).take 1 = [v]) : cs[i]? = some v := by
  have := congrArg (fun l : List α => l[0]?) h
  simpa [List.getElem?_drop] using this
theorem wf_i64p {a : Int} (h : (Lit.int .i64 a).wf = true) : -9223372036854775808 ≤ a ∧ a ≤ 9223372036854775807 := by
  simp [Lit.wf, IntKind.min, IntKind.max, IntKind.signed, IntKind.bits] at h
  omega
theorem raw_intp {n i : Nat} {cs : List Value} {y : DataW H × List MemPlace} (h : DataW.trod enc Try.prog w base spare held n 3 ((cs.drop i).take (Try.prog.cellsOf 3)) = some y) : ∃ a : Int, cs[i]? = some (.int .i64 a) ∧ (Lit.int .i64 a).wf = true := by
  rw [show Try.prog.cellsOf 3 = 1 by kernel_rfl] at h
  obtain ⟨a, e0, _, wf⟩ := DataW.trod_int Try.underlying3 h
  exact ⟨a, cut1p e0, wf⟩
theorem read_pair : ∀ n cs x, DataW.trod enc Try.prog w base spare held n 28 cs = some x → ∃ q : Pair, pairE.enc q = cs ∧ q.At ≤ 9223372036854775807 := by
  intro n cs x hf
  obtain ⟨xs, k, hk, hx, hl, hlen, hg⟩ := DataW.trod_struct Try.underlying28 hf
  have hl : cs.length = 2 := hl.trans (by kernel_rfl)
  match xs, hlen, hg with
  | [y0, y1], _, hg =>
    obtain ⟨a0, e0, _⟩ := raw_intp (cs := cs) (hg 0 _ rfl)
    obtain ⟨a1, e1, w1⟩ := raw_intp (cs := cs) (hg 1 _ rfl)
    match cs, hl, e0, e1 with
    | [_, _], _, e0, e1 =>
      cases e0; cases e1
      exact ⟨⟨a0, a1⟩, rfl, (wf_i64p w1).2⟩
theorem arg_pairs (hv : Value.okWide Try.prog w r b0 22 v) (h : DataW.Trod enc Try.prog w base spare held 22 v d p) :
    ∃ xs : List Pair, Rd pairE w v xs ∧ ∀ q ∈ xs, q.At ≤ 9223372036854775807 := by
  obtain ⟨xs, h1, h2⟩ := rd_gen pairE Try.underlying22 (by kernel_rfl) hv h (fun n cs x hf => by obtain ⟨q, e, _⟩ := read_pair n cs x hf; exact ⟨q, e⟩)
  refine ⟨xs, h1, fun x hx => ?_⟩
  rcases h2 with ⟨_, rfl⟩ | ⟨D, rest, _, hd⟩
  · cases hx
  · obtain ⟨i, hi⟩ := List.mem_iff_getElem?.1 hx
    obtain ⟨n, pl, ht⟩ := hd i x hi
    obtain ⟨q, e, h3⟩ := read_pair n _ _ ht
    obtain ⟨k, m⟩ := q
    obtain ⟨k0, m0⟩ := x
    simp only [pairE, List.cons.injEq, Value.int.injEq, true_and, and_true] at e
    obtain ⟨rfl, rfl⟩ := e
    exact h3
end
end Go.Proofs.Ytggohplddejniaa
