import Derived.Test.YtccddkkijhedhaaDoorLaid
import Derived.Lib.SmallJoins
namespace Go.Proofs.YtccddkkijhedhaaDoor
open Go.ChangeShapes Go.WideShapes Go.ChangeAt Go.RowKit
section
variable {H : Type} {enc : TypeId × Value → H} {w : World} {base : Nat} {spare : Nat → Bool} {held : Bool} {r : Reach} {b0 : Nat} {v : Value} {d : DataW H} {p : List MemPlace}
theorem arg_int {n i : Nat} {cs : List Value} {y : DataW H × List MemPlace} (h : DataW.trod enc Tryd.prog w base spare held n 3 ((cs.drop i).take (Tryd.prog.cellsOf 3)) = some y) : ∃ a : Int, cs[i]? = some (.int .i64 a) ∧ (Lit.int .i64 a).wf = true := by
  rw [show Tryd.prog.cellsOf 3 = 1 by kernel_rfl] at h
  obtain ⟨a, e0, _, wf⟩ := DataW.trod_int Tryd.underlying3 h
  exact ⟨a, cut1 e0, wf⟩
theorem arg_bool {n i : Nat} {cs : List Value} {y : DataW H × List MemPlace} (h : DataW.trod enc Tryd.prog w base spare held n 4 ((cs.drop i).take (Tryd.prog.cellsOf 4)) = some y) : ∃ a : Bool, cs[i]? = some (.bool a) := by
  rw [show Tryd.prog.cellsOf 4 = 1 by kernel_rfl] at h
  obtain ⟨a, e0, _⟩ := DataW.trod_bool Tryd.underlying4 h
  exact ⟨a, cut1 e0⟩
theorem arg_S23 (hv : Value.okWide Tryd.prog w r b0 23 v) (h : DataW.Trod enc Tryd.prog w base spare held 23 v d p) :
    ∃ a b c : Int, v = .agg #[.int .i64 a, .int .i64 b, .int .i64 c] ∧ (Lit.int .i64 a).wf = true ∧ (Lit.int .i64 b).wf = true ∧ (Lit.int .i64 c).wf = true := by
  obtain ⟨cs, rfl, hsz⟩ := okWide_struct Tryd.underlying23 hv
  obtain ⟨l⟩ := cs
  have hl : l.length = 3 := hsz.trans (by kernel_rfl)
  obtain ⟨fuel, hf⟩ := h
  obtain ⟨xs, n, _, hx, _, hlen, hg⟩ := DataW.trod_struct Tryd.underlying23 hf
  match xs, hlen, hg with
  | [y0, y1, y2], _, hg =>
    obtain ⟨a, ea, wa⟩ := arg_int (cs := l) (hg 0 _ rfl)
    obtain ⟨b, eb, wb⟩ := arg_int (cs := l) (hg 1 _ rfl)
    obtain ⟨c, ec, wc⟩ := arg_int (cs := l) (hg 2 _ rfl)
    match l, hl, ea, eb, ec with
    | [_, _, _], _, ea, eb, ec =>
      cases ea; cases eb; cases ec
      exact ⟨a, b, c, rfl, wa, wb, wc⟩
theorem arg_S26 (hv : Value.okWide Tryd.prog w r b0 26 v) (h : DataW.Trod enc Tryd.prog w base spare held 26 v d p) :
    ∃ (a b c e : Int) (k : Bool), v = .agg #[.int .i64 a, .int .i64 b, .int .i64 c, .int .i64 e, .bool k] ∧ (Lit.int .i64 a).wf = true ∧ (Lit.int .i64 b).wf = true ∧ (Lit.int .i64 c).wf = true ∧ (Lit.int .i64 e).wf = true := by
  obtain ⟨cs, rfl, hsz⟩ := okWide_struct Tryd.underlying26 hv
  obtain ⟨l⟩ := cs
  have hl : l.length = 5 := hsz.trans (by kernel_rfl)
  obtain ⟨fuel, hf⟩ := h
  obtain ⟨xs, n, _, hx, _, hlen, hg⟩ := DataW.trod_struct Tryd.underlying26 hf
  match xs, hlen, hg with
  | [y0, y1, y2, y3, y4], _, hg =>
    obtain ⟨a, ea, wa⟩ := arg_int (cs := l) (hg 0 _ rfl)
    obtain ⟨b, eb, wb⟩ := arg_int (cs := l) (hg 1 _ rfl)
    obtain ⟨c, ec, wc⟩ := arg_int (cs := l) (hg 2 _ rfl)
    obtain ⟨e, ee, we⟩ := arg_int (cs := l) (hg 3 _ rfl)
    obtain ⟨k, ek⟩ := arg_bool (cs := l) (hg 4 _ rfl)
    match l, hl, ea, eb, ec, ee, ek with
    | [_, _, _, _, _], _, ea, eb, ec, ee, ek =>
      cases ea; cases eb; cases ec; cases ee; cases ek
      exact ⟨a, b, c, e, k, rfl, wa, wb, wc, we⟩
end
end Go.Proofs.YtccddkkijhedhaaDoor
