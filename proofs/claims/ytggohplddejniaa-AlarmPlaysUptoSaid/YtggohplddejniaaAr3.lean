import Derived.Test.YtggohplddejniaaEngV
import Derived.Test.YtggohplddejniaaP1
import Derived.Test.YtggohplddejniaaAr
import Derived.JoinedCond
namespace Go.Proofs.Ytggohplddejniaa
open Go Go.Proofs Go.ChangeShapes Go.WideShapes Go.ChangeAt Go.RowKit
section
variable {H : Type} {enc : TypeId × Value → H} {P : Program} {W : World} {base : Nat} {spare : Nat → Bool} {held : Bool} {t e : TypeId} {v : Value} {d : DataW H} {ps : List MemPlace} {r : Reach} {b0 : Nat}
theorem bulk_len (l : List (DataW H)) : l.length ≤ Rows.uptoBulkAll l := by
  induction l with
  | nil => exact Nat.zero_le _
  | cons d l ih =>
    have h1 : 1 ≤ Rows.uptoBulk d := by
      cases d with
      | lit x => cases x <;> simp [Rows.uptoBulk]
      | _ => simp [Rows.uptoBulk]
    simp only [List.length_cons, Rows.uptoBulkAll]
    omega
theorem read_op {f0 f1 f2 f3 : Field} (he : P.underlying e = some (.struct #[f0, f1, f2, f3])) (ce : P.cellsOf e = 4) (o0 : f0.offset = 0) (o1 : f1.offset = 1) (o2 : f2.offset = 2) (o3 : f3.offset = 3) (c0 : P.cellsOf f0.type = 1) (c1 : P.cellsOf f1.type = 1) (c2 : P.cellsOf f2.type = 1) (c3 : P.cellsOf f3.type = 1)
    (u0 : P.underlying f0.type = some (.int .i64)) (u1 : P.underlying f1.type = some .bool) (u2 : P.underlying f2.type = some (.int .i64)) (u3 : P.underlying f3.type = some (.int .i64)) :
    ∀ n cs x, DataW.trod enc P W base spare held n e cs = some x → ∃ q, opE.enc q = cs := by
  intro n cs x h2
  obtain ⟨xs, k, hk, hxy, hlen, hxl, hg⟩ := DataW.trod_struct he h2
  rw [ce] at hlen
  match xs, hxl, cs, hlen with
  | [y0, y1, y2, y3], _, [v0, v1, v2, v3], _ =>
    have g0 := hg 0 f0 rfl
    have g1 := hg 1 f1 rfl
    have g2 := hg 2 f2 rfl
    have g3 := hg 3 f3 rfl
    simp [o0, o1, o2, o3, c0, c1, c2, c3] at g0 g1 g2 g3
    obtain ⟨k0, q0, _⟩ := DataW.trod_int u0 g0
    obtain ⟨k1, q1, _⟩ := DataW.trod_bool u1 g1
    obtain ⟨k2, q2, _⟩ := DataW.trod_int u2 g2
    obtain ⟨k3, q3, _⟩ := DataW.trod_int u3 g3
    injection q0 with q0
    injection q1 with q1
    injection q2 with q2
    injection q3 with q3
    exact ⟨⟨k0, k1, k2, k3⟩, by rw [q0, q1, q2, q3]; rfl⟩
end
end Go.Proofs.Ytggohplddejniaa
