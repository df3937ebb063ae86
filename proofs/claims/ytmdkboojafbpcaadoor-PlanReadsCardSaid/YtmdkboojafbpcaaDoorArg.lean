import Derived.Test.YtmdkboojafbpcaaDoorLai
import Derived.Test.YtmdkboojafbpcaaDoorQ1
import Derived.Below
import Derived.SizedLaws
import Derived.WalkKit
import Derived.SevenTiedAt
import Derived.Lib.SmallJoins
import Derived.Test.YtmdkboojafbpcaaDoorTie
import Derived.Test.YtmdkboojafbpcaaDoorCards
namespace Go.Proofs.YtmdkboojafbpcaaDoor
open Go Go.Proofs Go.ChangeShapes Go.WideShapes Go.ChangeAt Go.RowKit
set_option maxRecDepth 100000
section
variable {H : Type} {enc : TypeId × Value → H} {w : World} {base : Nat} {spare : Nat → Bool} {held : Bool} {r : Reach} {b0 : Nat} {v : Value} {d : DataW H} {p : List MemPlace}
theorem arg_int {n i : Nat} {cs : List Value} {y : DataW H × List MemPlace} (h : DataW.trod enc Tryd.prog w base spare held n 3 ((cs.drop i).take (Tryd.prog.cellsOf 3)) = some y) : ∃ a : Int, cs[i]? = some (.int .i64 a) ∧ (Lit.int .i64 a).wf = true := by
  rw [show Tryd.prog.cellsOf 3 = 1 by kernel_rfl] at h
  obtain ⟨a, e0, _, wf⟩ := DataW.trod_int Tryd.underlying3 h
  exact ⟨a, cut1 e0, wf⟩
theorem wf_i64 {a : Int} (h : (Lit.int .i64 a).wf = true) : -9223372036854775808 ≤ a ∧ a ≤ 9223372036854775807 := by
  simp [Lit.wf, IntKind.min, IntKind.max, IntKind.signed, IntKind.bits] at h
  omega
theorem read_shape : ∀ n cs x, DataW.trod enc Tryd.prog w base spare held n 23 cs = some x → ∃ s : Shp, s.l.map (Value.int .i64) = cs := by
  intro n cs x hf
  obtain ⟨xs, k, hk, hx, hl, hlen, hg⟩ := DataW.trod_struct Tryd.underlying23 hf
  have hl : cs.length = 8 := hl.trans (by kernel_rfl)
  match xs, hlen, hg with
  | [y0, y1, y2, y3, y4, y5, y6, y7], _, hg =>
    obtain ⟨a0, e0, _⟩ := arg_int (cs := cs) (hg 0 _ rfl)
    obtain ⟨a1, e1, _⟩ := arg_int (cs := cs) (hg 1 _ rfl)
    obtain ⟨a2, e2, _⟩ := arg_int (cs := cs) (hg 2 _ rfl)
    obtain ⟨a3, e3, _⟩ := arg_int (cs := cs) (hg 3 _ rfl)
    obtain ⟨a4, e4, _⟩ := arg_int (cs := cs) (hg 4 _ rfl)
    obtain ⟨a5, e5, _⟩ := arg_int (cs := cs) (hg 5 _ rfl)
    obtain ⟨a6, e6, _⟩ := arg_int (cs := cs) (hg 6 _ rfl)
    obtain ⟨a7, e7, _⟩ := arg_int (cs := cs) (hg 7 _ rfl)
    match cs, hl, e0, e1, e2, e3, e4, e5, e6, e7 with
    | [_, _, _, _, _, _, _, _], _, e0, e1, e2, e3, e4, e5, e6, e7 =>
      cases e0; cases e1; cases e2; cases e3; cases e4; cases e5; cases e6; cases e7
      exact ⟨⟨a0, a1, a2, a3, a4, a5, a6, a7⟩, rfl⟩
theorem arg_shape (hv : Value.okWide Tryd.prog w r b0 23 v) (h : DataW.Trod enc Tryd.prog w base spare held 23 v d p) : ∃ s : Shp, v = s.v := by
  obtain ⟨cs, rfl, hsz⟩ := okWide_struct Tryd.underlying23 hv
  obtain ⟨l⟩ := cs
  obtain ⟨fuel, hf⟩ := h
  obtain ⟨s, rfl⟩ := read_shape _ _ _ hf
  exact ⟨s, rfl⟩
theorem arg_layout (hv : Value.okWide Tryd.prog w r b0 26 v) (h : DataW.Trod enc Tryd.prog w base spare held 26 v d p) : ∃ l : Lyt, v = l.v := by
  obtain ⟨cs, rfl, hsz⟩ := okWide_struct Tryd.underlying26 hv
  obtain ⟨cs⟩ := cs
  have hl : cs.length = 20 := hsz.trans (by kernel_rfl)
  obtain ⟨fuel, hf⟩ := h
  obtain ⟨xs, k, hk, hx, _, hlen, hg⟩ := DataW.trod_struct Tryd.underlying26 hf
  match xs, hlen, hg with
  | [y0, y1, y2, y3, y4, y5, y6, y7, y8, y9, y10, y11, y12], _, hg =>
    obtain ⟨a0, e0, _⟩ := arg_int (cs := cs) (hg 0 _ rfl)
    obtain ⟨a1, e1, _⟩ := arg_int (cs := cs) (hg 1 _ rfl)
    obtain ⟨a2, e2, _⟩ := arg_int (cs := cs) (hg 2 _ rfl)
    obtain ⟨a3, e3, _⟩ := arg_int (cs := cs) (hg 3 _ rfl)
    obtain ⟨a4, e4, _⟩ := arg_int (cs := cs) (hg 4 _ rfl)
    obtain ⟨a5, e5, _⟩ := arg_int (cs := cs) (hg 5 _ rfl)
    obtain ⟨a6, e6, _⟩ := arg_int (cs := cs) (hg 6 _ rfl)
    obtain ⟨a7, e7, _⟩ := arg_int (cs := cs) (hg 7 _ rfl)
    obtain ⟨a8, e8, _⟩ := arg_int (cs := cs) (hg 8 _ rfl)
    obtain ⟨a9, e9, _⟩ := arg_int (cs := cs) (hg 9 _ rfl)
    obtain ⟨a10, e10, _⟩ := arg_int (cs := cs) (hg 10 _ rfl)
    obtain ⟨a11, e11, _⟩ := arg_int (cs := cs) (hg 11 _ rfl)
    obtain ⟨s, hs⟩ := read_shape _ _ _ (hg 12 _ rfl)
    have hc8 : Tryd.prog.cellsOf 23 = 8 := by kernel_rfl
    have hs' : s.l.map (Value.int .i64) = (cs.drop 12).take 8 := by rw [← hc8]; exact hs
    match cs, hl, e0, e1, e2, e3, e4, e5, e6, e7, e8, e9, e10, e11, hs' with
    | [_, _, _, _, _, _, _, _, _, _, _, _, _, _, _, _, _, _, _, _], _, e0, e1, e2, e3, e4, e5, e6, e7, e8, e9, e10, e11, hs' =>
      cases e0; cases e1; cases e2; cases e3; cases e4; cases e5; cases e6; cases e7; cases e8; cases e9; cases e10; cases e11
      simp only [Shp.l, List.map_cons, List.map_nil, List.drop_succ_cons, List.drop_zero, List.take_succ_cons, List.take_zero, List.cons.injEq, and_true] at hs'
      obtain ⟨rfl, rfl, rfl, rfl, rfl, rfl, rfl, rfl⟩ := hs'
      exact ⟨⟨a0, a1, a2, a3, a4, a5, a6, a7, a8, a9, a10, a11, s⟩, rfl⟩
theorem read_byte : ∀ n cs x, DataW.trod enc Tryd.prog w base spare held n 5 cs = some x → ∃ q, byteE.enc q = cs := by
  intro n cs x hf
  obtain ⟨a, e0, _, _⟩ := DataW.trod_int Tryd.underlying5 hf
  exact ⟨a, e0.symm⟩
theorem arg_bytes (hv : Value.okWide Tryd.prog w r b0 35 v) (h : DataW.Trod enc Tryd.prog w base spare held 35 v d p) :
    ∃ bs, Rd byteE w v bs ∧ Byts bs ∧ ((d = .nil ∧ bs = []) ∨ ∃ (D : Nat → DataW H) (rest : List (DataW H)), d = .slice ((List.range bs.length).map D) rest) := by
  obtain ⟨bs, h1, h2⟩ := rd_gen byteE Tryd.underlying35 (by kernel_rfl) hv h read_byte
  refine ⟨bs, h1, fun x hx => ?_, h2.imp id fun ⟨D, rest, e, _⟩ => ⟨D, rest, e⟩⟩
  rcases h2 with ⟨_, rfl⟩ | ⟨D, rest, _, hd⟩
  · cases hx
  · obtain ⟨i, hi⟩ := List.mem_iff_getElem?.1 hx
    obtain ⟨n, pl, ht⟩ := hd i x hi
    obtain ⟨a, e0, _, wf⟩ := DataW.trod_int Tryd.underlying5 ht
    injection e0 with e0
    injection e0 with _ e0
    subst e0
    simp [Lit.wf, IntKind.min, IntKind.max, IntKind.signed, IntKind.bits] at wf
    omega
end
end Go.Proofs.YtmdkboojafbpcaaDoor
