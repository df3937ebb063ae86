import Derived.Test.YtfolhmlldoepfaaGreatDoorGe
import Derived.Test.YtfolhmlldoepfaaGreatDoorRows
import Derived.ProofKit
import Derived.LaidMore
import Derived.LaidHandle
import Derived.MakeChecks
import Derived.OpenShut
import Derived.Stop.Joined
import Derived.LaidLaws
import Derived.Below
import Derived.SizedLaws
import Derived.WalkKit
import Derived.SevenTiedAt
import Derived.ChangeSame
import Derived.Test.YtfolhmlldoepfaaGreatDoorGs
namespace Go.Proofs.YtfolhmlldoepfaaGreatDoor
open Go Go.Proofs Go.RowKit
set_option maxRecDepth 4000
end Go.Proofs.YtfolhmlldoepfaaGreatDoor
namespace Go.Proofs.YtfolhmlldoepfaaGreatDoor
open Go Go.Proofs Go.ChangeShapes Go.WideShapes Go.ChangeAt Go.RowKit
set_option maxRecDepth 100000
theorem own : ownKnob Tryz.prog.godebug = none := by kernel_rfl
theorem laidOut : laidOutB Tryz.prog = true := by kernel_rfl
theorem But.below {w w' : World} (h : But w w' nowhere) : Below w.heap.size w w' := ⟨h.os, h.tape, h.output, h.size, fun k hk => h.blk k hk id⟩
section
variable {X : Type} {H : Type} {enc : TypeId × Value → H} {P : Program} {W : World} {base : Nat} {spare : Nat → Bool} {held : Bool} {t e : TypeId} {d : DataW H} {ps : List MemPlace}
/-- The reader of a slice that lies in a cell. -/
theorem rd_raw (E : Elem X) {fuel : Nat} {v : Value} (hu : P.underlying t = some (.slice e)) (ce : P.cellsOf e = E.sz) (hf : DataW.trod enc P W base spare held fuel t [v] = some (d, ps))
    (read : ∀ n cs x, DataW.trod enc P W base spare held n e cs = some x → ∃ q, E.enc q = cs) :
    ∃ xs : List X, Rd E W v xs ∧ ((d = .nil ∧ xs = []) ∨ ∃ (D : Nat → DataW H) (rest : List (DataW H)), d = .slice ((List.range xs.length).map D) rest ∧ ∀ i q, xs[i]? = some q → ∃ n pl, DataW.trod enc P W base spare held n e (E.enc q) = some (D i, pl)) := by
  rcases Go.Deep.open_slice hu hf with ⟨hcs, hx⟩ | ⟨x, l, c, m, n, D, Pl, hcs, _, hl, hm, hmm, hx, hc⟩
  · injection hcs with hcs
    subst hcs
    exact ⟨[], ⟨none, 0, rfl, Nat.le_refl _, by decide, .inl rfl⟩, .inl ⟨(Prod.mk.inj hx).1, rfl⟩⟩
  · injection hcs with hcs
    subst hcs
    have hval : Value.okWide P W .any 0 t (.slice (some x) l c) ∨ True := .inr trivial
    have hlm : l ≤ m := by rw [hmm]; split <;> omega
    obtain ⟨hx1, _⟩ := Prod.mk.inj hx
    have each : ∀ i : Fin l, ∃ q : X, (∀ j u, (E.enc q)[j]? = some u → W.cell? ((x.add (i.1 * E.sz)).add j) = some u) ∧ DataW.trod enc P W base spare held n e (E.enc q) = some (D i.1, Pl i.1) := fun i => by
      obtain ⟨cs', h1, h2⟩ := hc i.1 (by omega)
      obtain ⟨q, rfl⟩ := read _ _ _ h2
      rw [ce] at h1
      obtain ⟨_, hlen, hcell⟩ := World.cells?_some h1
      refine ⟨q, fun j u hj => ?_, h2⟩
      have hj' : j < E.sz := by
        have := (List.getElem?_eq_some_iff.1 hj).1
        rwa [E.len] at this
      have := hcell j hj'
      rw [this, hj]
    obtain ⟨q, hq⟩ := Classical.axiomOfChoice each
    by_cases h0 : l = 0
    · subst h0
      refine ⟨[], ⟨some x, c, rfl, Nat.zero_le _, hm, .inl rfl⟩, .inr ⟨D, _, hx1, fun i q hq => by simp at hq⟩⟩
    · obtain ⟨g, off, sp⟩ := x
      have hsp : sp = none := by
        obtain ⟨z, hz⟩ : ∃ z : Fin l, z.1 = 0 := ⟨⟨0, Nat.pos_of_ne_zero h0⟩, rfl⟩
        obtain ⟨h1, _⟩ := hq z
        cases sp with
        | none => rfl
        | some s =>
          have hpos : 0 < (E.enc (q z)).length := by rw [E.len]; exact E.pos
          have h2 := h1 0 _ (List.getElem?_eq_getElem hpos)
          rw [hz, Nat.zero_mul] at h2
          simp [Addr.add, World.cell?] at h2
          split at h2 <;> cases h2
      subst hsp
      have hln : (List.ofFn q).length = l := List.length_ofFn
      refine ⟨List.ofFn q, ⟨some ⟨g, off, none⟩, c, by rw [hln], by rw [hln]; exact hl, hm, .inr ⟨g, off, rfl, fun i p hi j u hj => ?_⟩⟩, .inr ⟨D, _, by rw [hln]; exact hx1, fun i p hi => ?_⟩⟩
      · rw [List.getElem?_ofFn] at hi
        split at hi
        · rename_i hlt
          injection hi with hi
          subst hi
          have := (hq ⟨i, hlt⟩).1 j u hj
          rwa [add_lit, add_lit] at this
        · cases hi
      · rw [List.getElem?_ofFn] at hi
        split at hi
        · rename_i hlt
          injection hi with hi
          subst hi
          exact ⟨_, _, (hq ⟨i, hlt⟩).2⟩
        · cases hi
end
section
variable {H : Type} {enc : TypeId × Value → H} {w : World} {base : Nat} {spare : Nat → Bool} {held : Bool} {r : Reach} {b0 : Nat} {v : Value} {d : DataW H} {p : List MemPlace}
theorem cut1 {α : Type} {cs : List α} {i : Nat} {v : α} (h : (cs.drop i).take 1 = [v]) : cs[i]? = some v := by
  have := congrArg (fun l : List α => l[0]?) h
  simpa [List.getElem?_drop] using this
theorem read_byte : ∀ n cs x, DataW.trod enc Tryz.prog w base spare held n 5 cs = some x → ∃ q, byteE.enc q = cs := by
  intro n cs x hf
  obtain ⟨a, e0, _, _⟩ := DataW.trod_int Tryz.underlying5 hf
  exact ⟨a, e0.symm⟩
theorem byts_of {bs : List Int} {D : Nat → DataW H} (hd : ∀ i q, bs[i]? = some q → ∃ n pl, DataW.trod enc Tryz.prog w base spare held n 5 (byteE.enc q) = some (D i, pl)) : Byts bs := fun x hx => by
  obtain ⟨i, hi⟩ := List.mem_iff_getElem?.1 hx
  obtain ⟨n, pl, ht⟩ := hd i x hi
  obtain ⟨a, e0, _, wf⟩ := DataW.trod_int Tryz.underlying5 ht
  injection e0 with e0
  injection e0 with _ e0
  subst e0
  simp [Lit.wf, IntKind.min, IntKind.max, IntKind.signed, IntKind.bits] at wf
  omega
theorem arg_bytes (hv : Value.okWide Tryz.prog w r b0 22 v) (h : DataW.Trod enc Tryz.prog w base spare held 22 v d p) :
    ∃ bs, Rd byteE w v bs ∧ Byts bs ∧ ((d = .nil ∧ bs = []) ∨ ∃ (D : Nat → DataW H) (rest : List (DataW H)), d = .slice ((List.range bs.length).map D) rest) := by
  obtain ⟨bs, h1, h2⟩ := rd_gen byteE Tryz.underlying22 (by kernel_rfl) hv h read_byte
  refine ⟨bs, h1, ?_, h2.imp id fun ⟨D, rest, e, _⟩ => ⟨D, rest, e⟩⟩
  rcases h2 with ⟨_, rfl⟩ | ⟨D, rest, _, hd⟩
  · intro x hx; cases hx
  · exact byts_of hd
theorem bulk_pos : ∀ d : DataW H, 1 ≤ Rows.uptoBulk d
  | .lit (.string _) => by simp [Rows.uptoBulk]
  | .lit (.int ..) => by simp [Rows.uptoBulk]
  | .lit (.bool _) => by simp [Rows.uptoBulk]
  | .lit (.float ..) => by simp [Rows.uptoBulk]
  | .lit .nil => by simp [Rows.uptoBulk]
  | .nil => by simp [Rows.uptoBulk]
  | .ptr _ => by simp [Rows.uptoBulk]
  | .slice .. => by simp [Rows.uptoBulk]
  | .agg _ => by simp [Rows.uptoBulk]
  | .iface .. => by simp [Rows.uptoBulk]
  | .map _ => by simp [Rows.uptoBulk]
  | .held _ => by simp [Rows.uptoBulk]
theorem bulk_all : ∀ (l : List (DataW H)), l.length ≤ Rows.uptoBulkAll l
  | [] => by simp
  | d :: l => by
    have := bulk_all l
    have := bulk_pos d
    simp only [Rows.uptoBulkAll, List.length_cons]
    omega
theorem bytes_bulk {bs : List Int} (dd : (d = .nil ∧ bs = []) ∨ ∃ (D : Nat → DataW H) (rest : List (DataW H)), d = .slice ((List.range bs.length).map D) rest) : bs.length ≤ Rows.uptoBulk d := by
  rcases dd with ⟨_, rfl⟩ | ⟨D, rest, rfl⟩
  · exact Nat.zero_le _
  · have := bulk_all ((List.range bs.length).map D)
    simp only [List.length_map, List.length_range] at this
    simp only [Rows.uptoBulk]
    omega
theorem bulk_mem : ∀ {l : List (DataW H)} {d : DataW H}, d ∈ l → Rows.uptoBulk d ≤ Rows.uptoBulkAll l
  | [], _, h => by cases h
  | d0 :: l, d, h => by
    simp only [Rows.uptoBulkAll]
    rcases List.mem_cons.1 h with rfl | h
    · omega
    · have := bulk_mem h
      omega
theorem raw_int {n i : Nat} {cs : List Value} {y : DataW H × List MemPlace} (h : DataW.trod enc Tryz.prog w base spare held n 3 ((cs.drop i).take (Tryz.prog.cellsOf 3)) = some y) : ∃ a : Int, cs[i]? = some (.int .i64 a) := by
  rw [show Tryz.prog.cellsOf 3 = 1 by kernel_rfl] at h
  obtain ⟨a, e0, _, wf⟩ := DataW.trod_int Tryz.underlying3 h
  exact ⟨a, cut1 e0⟩
theorem raw_err {n i : Nat} {cs : List Value} {y : DataW H × List MemPlace} (h : DataW.trod enc Tryz.prog w base spare held n 25 ((cs.drop i).take (Tryz.prog.cellsOf 25)) = some y) : ∃ a : Int, cs[i]? = some (.int .i64 a) := by
  rw [show Tryz.prog.cellsOf 25 = 1 by kernel_rfl] at h
  obtain ⟨a, e0, _, wf⟩ := DataW.trod_int Tryz.underlying25 h
  exact ⟨a, cut1 e0⟩
theorem raw_bool {n i : Nat} {cs : List Value} {y : DataW H × List MemPlace} (h : DataW.trod enc Tryz.prog w base spare held n 4 ((cs.drop i).take (Tryz.prog.cellsOf 4)) = some y) : ∃ a : Bool, cs[i]? = some (.bool a) := by
  rw [show Tryz.prog.cellsOf 4 = 1 by kernel_rfl] at h
  obtain ⟨a, e0, _⟩ := DataW.trod_bool Tryz.underlying4 h
  exact ⟨a, cut1 e0⟩
theorem raw_str {n i : Nat} {cs : List Value} {y : DataW H × List MemPlace} (h : DataW.trod enc Tryz.prog w base spare held n 9 ((cs.drop i).take (Tryz.prog.cellsOf 9)) = some y) : ∃ a : ByteArray, cs[i]? = some (.string a) ∧ a.size ≤ Rows.uptoBulk y.1 := by
  rw [show Tryz.prog.cellsOf 9 = 1 by kernel_rfl] at h
  obtain ⟨a, e0, e1, _⟩ := DataW.trod_string Tryz.underlying9 h
  refine ⟨a, cut1 e0, ?_⟩
  rw [e1]
  simp only [Rows.uptoBulk]
  rw [Array.length_toList]
  exact Nat.le_succ _
theorem raw_bytes {n i : Nat} {cs : List Value} {y : DataW H × List MemPlace} (hi : i < cs.length) (h : DataW.trod enc Tryz.prog w base spare held n 22 ((cs.drop i).take (Tryz.prog.cellsOf 22)) = some y) :
    ∃ (sl : SlV) (bs : List Int), cs[i]? = some sl.v ∧ Rd byteE w sl.v bs ∧ Byts bs ∧ bs.length ≤ Rows.uptoBulk y.1 := by
  rw [show Tryz.prog.cellsOf 22 = 1 by kernel_rfl] at h
  have e1 : (cs.drop i).take 1 = [cs[i]] := by rw [List.drop_eq_getElem_cons hi]; rfl
  rw [e1] at h
  obtain ⟨dd, pp⟩ := y
  obtain ⟨bs, h1, h2⟩ := rd_raw byteE Tryz.underlying22 (by kernel_rfl) h read_byte
  obtain ⟨a, c, e2, h3⟩ := id h1
  refine ⟨⟨a, bs.length, c⟩, bs, by rw [List.getElem?_eq_getElem hi, e2]; rfl, by rw [e2] at h1; exact h1, ?_, bytes_bulk (h2.imp id fun ⟨D, rest, e, _⟩ => ⟨D, rest, e⟩)⟩
  rcases h2 with ⟨_, rfl⟩ | ⟨D, rest, _, hd⟩
  · exact nil_byts
  · exact byts_of hd
theorem read_ent : ∀ n cs x, DataW.trod enc Tryz.prog w base spare held n 94 cs = some x → ∃ q : EntV, entE.enc q = cs := by
  intro n cs x hf
  obtain ⟨xs, k, hk, hx, hl, hlen, hg⟩ := DataW.trod_struct Tryz.underlying94 hf
  have hl : cs.length = 3 := hl.trans (by kernel_rfl)
  match xs, hlen, hg with
  | [y0, y1, y2], _, hg =>
    obtain ⟨a0, e0, _⟩ := raw_str (cs := cs) (hg 0 _ rfl)
    obtain ⟨a1, e1⟩ := raw_int (cs := cs) (hg 1 _ rfl)
    obtain ⟨a2, e2⟩ := raw_int (cs := cs) (hg 2 _ rfl)
    match cs, hl, e0, e1, e2 with
    | [_, _, _], _, e0, e1, e2 =>
      cases e0; cases e1; cases e2
      exact ⟨⟨a0, a1, a2⟩, rfl⟩
theorem raw_ents {n i : Nat} {cs : List Value} {y : DataW H × List MemPlace} (hi : i < cs.length) (h : DataW.trod enc Tryz.prog w base spare held n 28 ((cs.drop i).take (Tryz.prog.cellsOf 28)) = some y) :
    ∃ (sl : SlV) (es : List EntV), cs[i]? = some sl.v ∧ Rd entE w sl.v es ∧ es.length ≤ Rows.uptoBulk y.1 := by
  rw [show Tryz.prog.cellsOf 28 = 1 by kernel_rfl] at h
  have e1 : (cs.drop i).take 1 = [cs[i]] := by rw [List.drop_eq_getElem_cons hi]; rfl
  rw [e1] at h
  obtain ⟨dd, pp⟩ := y
  obtain ⟨es, h1, h2⟩ := rd_raw entE Tryz.underlying28 (by kernel_rfl) h read_ent
  obtain ⟨a, c, e2, h3⟩ := id h1
  refine ⟨⟨a, es.length, c⟩, es, by rw [List.getElem?_eq_getElem hi, e2]; rfl, by rw [e2] at h1; exact h1, ?_⟩
  rcases h2 with ⟨_, rfl⟩ | ⟨D, rest, rfl, _⟩
  · exact Nat.zero_le _
  · have := bulk_all ((List.range es.length).map D)
    simp only [List.length_map, List.length_range] at this
    simp only [Rows.uptoBulk]
    omega
/-- A request that is handed in. -/
theorem read_req : ∀ n cs x, DataW.trod enc Tryz.prog w base spare held n 24 cs = some x → ∃ (q : ReqV) (ds : List Int), q.cs.toList = cs ∧ Rd byteE w q.dv.v ds ∧ Byts ds ∧ q.path.size ≤ Rows.uptoBulk x.1 ∧ ds.length ≤ Rows.uptoBulk x.1 := by
  intro n cs x hf
  obtain ⟨xs, k, hk, hx, hl, hlen, hg⟩ := DataW.trod_struct Tryz.underlying24 hf
  have hl : cs.length = 13 := hl.trans (by kernel_rfl)
  have hbk : ∀ y ∈ xs, Rows.uptoBulk y.1 ≤ Rows.uptoBulk x.1 := fun y hy => by
    rw [show x = _ from hx]
    simp only [Rows.uptoBulk]
    have := bulk_mem (List.mem_map_of_mem (f := fun z : DataW H × List MemPlace => z.1) hy)
    omega
  match xs, hlen, hg, hbk with
  | [y0, y1, y2, y3, y4, y5, y6, y7, y8, y9, y10, y11, y12], _, hg, hbk =>
    obtain ⟨a0, e0⟩ := raw_int (cs := cs) (hg 0 _ rfl)
    obtain ⟨a1, e1⟩ := raw_int (cs := cs) (hg 1 _ rfl)
    obtain ⟨a2, e2⟩ := raw_int (cs := cs) (hg 2 _ rfl)
    obtain ⟨a3, e3⟩ := raw_int (cs := cs) (hg 3 _ rfl)
    obtain ⟨a4, e4⟩ := raw_int (cs := cs) (hg 4 _ rfl)
    obtain ⟨a5, e5⟩ := raw_int (cs := cs) (hg 5 _ rfl)
    obtain ⟨a6, e6⟩ := raw_int (cs := cs) (hg 6 _ rfl)
    obtain ⟨a7, e7⟩ := raw_int (cs := cs) (hg 7 _ rfl)
    obtain ⟨a8, e8⟩ := raw_int (cs := cs) (hg 8 _ rfl)
    obtain ⟨a9, e9, z9⟩ := raw_str (cs := cs) (hg 9 _ rfl)
    obtain ⟨a10, e10, _⟩ := raw_str (cs := cs) (hg 10 _ rfl)
    obtain ⟨a11, e11, _⟩ := raw_str (cs := cs) (hg 11 _ rfl)
    obtain ⟨sl, bs, e12, h12, b12, z12⟩ := raw_bytes (cs := cs) (i := 12) (by omega) (hg 12 _ rfl)
    have k9 := hbk y9 (by simp)
    have k12 := hbk y12 (by simp)
    match cs, hl, e0, e1, e2, e3, e4, e5, e6, e7, e8, e9, e10, e11, e12 with
    | [_, _, _, _, _, _, _, _, _, _, _, _, _], _, e0, e1, e2, e3, e4, e5, e6, e7, e8, e9, e10, e11, e12 =>
      cases e0; cases e1; cases e2; cases e3; cases e4; cases e5; cases e6; cases e7; cases e8; cases e9; cases e10; cases e11; cases e12
      exact ⟨⟨a0, a1, a2, a3, a4, a5, a6, a7, a8, a9, a10, a11, sl⟩, bs, rfl, h12, b12, Nat.le_trans z9 k9, Nat.le_trans z12 k12⟩
theorem read_rep : ∀ n cs x, DataW.trod enc Tryz.prog w base spare held n 30 cs = some x → ∃ (q : RepV) (ds : List Int) (es : List EntV), q.cs.toList = cs ∧ Rd byteE w q.dv.v ds ∧ Byts ds ∧ Rd entE w q.lv.v es ∧ ds.length ≤ Rows.uptoBulk x.1 ∧ es.length ≤ Rows.uptoBulk x.1 := by
  intro n cs x hf
  obtain ⟨xs, k, hk, hx, hl, hlen, hg⟩ := DataW.trod_struct Tryz.underlying30 hf
  have hl : cs.length = 12 := hl.trans (by kernel_rfl)
  have hbk : ∀ y ∈ xs, Rows.uptoBulk y.1 ≤ Rows.uptoBulk x.1 := fun y hy => by
    rw [show x = _ from hx]
    simp only [Rows.uptoBulk]
    have := bulk_mem (List.mem_map_of_mem (f := fun z : DataW H × List MemPlace => z.1) hy)
    omega
  match xs, hlen, hg, hbk with
  | [y0, y1, y2, y3, y4, y5, y6, y7, y8], _, hg, hbk =>
    obtain ⟨a0, e0⟩ := raw_int (cs := cs) (hg 0 _ rfl)
    obtain ⟨a1, e1⟩ := raw_int (cs := cs) (hg 1 _ rfl)
    obtain ⟨a2, e2⟩ := raw_int (cs := cs) (hg 2 _ rfl)
    obtain ⟨a3, e3⟩ := raw_int (cs := cs) (hg 3 _ rfl)
    obtain ⟨a4, e4⟩ := raw_err (cs := cs) (hg 4 _ rfl)
    have hg5 := hg 5 _ rfl
    obtain ⟨xs5, k5, _, _, _, hlen5, hg5⟩ := DataW.trod_struct Tryz.underlying27 (x := y5) hg5
    have c4 : Tryz.prog.cellsOf 27 = 4 := by kernel_rfl
    obtain ⟨sl, bs, e9, h9, b9, z9⟩ := raw_bytes (cs := cs) (i := 9) (by omega) (hg 6 _ rfl)
    obtain ⟨ll, es, e10, h10, z10⟩ := raw_ents (cs := cs) (i := 10) (by omega) (hg 7 _ rfl)
    obtain ⟨a11, e11⟩ := raw_bool (cs := cs) (hg 8 _ rfl)
    have k6 := hbk y6 (by simp)
    have k7 := hbk y7 (by simp)
    match xs5, hlen5, hg5 with
    | [u0, u1, u2, u3], _, hg5 =>
      obtain ⟨a5, e5⟩ := raw_int (cs := (cs.drop 5).take 4) (i := 0) (by rw [← c4]; exact hg5 0 _ rfl)
      obtain ⟨a6, e6⟩ := raw_int (cs := (cs.drop 5).take 4) (i := 1) (by rw [← c4]; exact hg5 1 _ rfl)
      obtain ⟨a7, e7⟩ := raw_int (cs := (cs.drop 5).take 4) (i := 2) (by rw [← c4]; exact hg5 2 _ rfl)
      obtain ⟨a8, e8⟩ := raw_int (cs := (cs.drop 5).take 4) (i := 3) (by rw [← c4]; exact hg5 3 _ rfl)
      match cs, hl, e0, e1, e2, e3, e4, e5, e6, e7, e8, e9, e10, e11 with
      | [_, _, _, _, _, _, _, _, _, _, _, _], _, e0, e1, e2, e3, e4, e5, e6, e7, e8, e9, e10, e11 =>
        cases e0; cases e1; cases e2; cases e3; cases e4; cases e5; cases e6; cases e7; cases e8; cases e9; cases e10; cases e11
        exact ⟨⟨a0, a1, a2, a3, a4, a5, a6, a7, a8, sl, ll, a11⟩, bs, es, rfl, h9, b9, h10, Nat.le_trans z9 k6, Nat.le_trans z10 k7⟩
end
end Go.Proofs.YtfolhmlldoepfaaGreatDoor
namespace Go.Proofs.YtfolhmlldoepfaaGreatDoor
open Go Go.Proofs Go.ChangeShapes Go.WideShapes Go.ChangeAt Go.RowKit
set_option maxRecDepth 100000
abbrev lst : List (String × DataW Unit) := [("errors.errorType", Rows.laid_errors_errorType), ("annex/bits.errTrouble", Rows.laid_annex_bits_errTrouble), ("annex/msg.asked", Rows.laid_annex_msg_asked)]
theorem door_met (os : Os) (args : Array Value) : laidMetH Tryz.prog lst ((World.doorLaid Tryz.prog 400 os).forCall (fun _ _ => 0) ⟨#[], args, []⟩).memory :=
  laidMetH_of_parts3 (fuel := 8) (laidMet_of_run' 8 (by kernel_rfl) (by kernel_rfl)) (by kernel_rfl) (by kernel_rfl)
theorem gTrb : Tryz.prog.globalNamed "annex/bits.errTrouble" = some 1 := by kernel_rfl
theorem gTyp : Tryz.prog.globalNamed "errors.errorType" = some 2 := by kernel_rfl
theorem tTrb : (Tryz.prog.globals[1]?).map (·.type) = some 183 := by kernel_rfl
theorem gAsk : Tryz.prog.globalNamed "annex/msg.asked" = some 0 := by kernel_rfl
theorem tAsk : (Tryz.prog.globals[0]?).map (·.type) = some 139 := by kernel_rfl
theorem star0 : "*" ++ "errors.errorString" = "*errors.errorString" := by decide
theorem rowS (u : TypeId) (h : Tryz.prog.typeName? 3 u = some "*errors.errorString") : u = 224 :=
  typeName_ptr_named (nm := "errors.errorString") (by rw [star0]; kernel_rfl) (by kernel_rfl) (by decide) u (by rw [star0]; exact h)
theorem rtyp_only {u : TypeId} (h : (Tryz.prog.cutTypes.find? (·.1 == "internal/reflectlite.rtype")).map (·.2) = some u) : u = 209 :=
  (Option.some.inj ((show (Tryz.prog.cutTypes.find? (·.1 == "internal/reflectlite.rtype")).map (·.2) = some 209 by kernel_rfl).symm.trans h)).symm
theorem err_only {ty : TypeId} (h1 : ty < Tryz.prog.types.size) (h2 : Tryz.prog.rowNamed ty [101, 114, 114, 111, 114] = true) : ty = 183 := by
  have h0 : Tryz.prog.types.size = 257 := by kernel_rfl
  have hall : ((List.range 257).all fun t => !Tryz.prog.rowNamed t [101, 114, 114, 111, 114] || t == 183) = true := by kernel_rfl
  have := List.all_eq_true.1 hall ty (List.mem_range.2 (by rw [h0] at h1; exact h1))
  simpa [h2] using this
theorem cell_blk {w : World} {b i : Nat} {v : Value} (h : w.cell? ⟨b, i, none⟩ = some v) : ∃ cs bt fz, w.heap[b]? = some (.cells cs bt fz) := by
  unfold World.cell? at h
  dsimp only at h
  split at h
  · rename_i cs bt fz hb
    exact ⟨cs, bt, fz, hb⟩
  · cases h
theorem celAt_of {w : World} {b : Nat} {v : Value} {vs : List Value} (h : ∀ i u, (v :: vs)[i]? = some u → w.cell? ⟨b, i, none⟩ = some u) : CelAt b (v :: vs) w := by
  obtain ⟨cs, bt, fz, hb⟩ := cell_blk (h 0 v rfl)
  refine ⟨_, hb, cs, bt, fz, rfl, fun i u hu => ?_⟩
  have := h i u hu
  rwa [blk_cell hb] at this
theorem celAt_one {w : World} {b : Nat} {v : Value} (h : w.cell? ⟨b, 0, none⟩ = some v) : CelAt b [v] w := celAt_of (fun i u hu => by
  match i, hu with
  | 0, hu => cases hu; exact h
  | n + 1, hu => simp at hu)
theorem celAt_lt {w : World} {b : Nat} {vs : List Value} (h : CelAt b vs w) : b < w.heap.size := by
  obtain ⟨ob, h1, _⟩ := h
  exact (Array.getElem?_eq_some_iff.1 h1).1
abbrev litI (a : Int) : DataW Unit := .lit (.int .i64 a)
theorem read_num {W : World} : ∀ n cs x, DataW.trod (fun _ => ()) Tryz.prog W 0 (fun _ => true) false n 3 cs = some x → ∃ q, numE.enc q = cs := by
  intro n cs x hf
  obtain ⟨a, e0, _, _⟩ := DataW.trod_int Tryz.underlying3 hf
  exact ⟨a, e0.symm⟩
theorem raw_nums {W : World} {n i : Nat} {cs : List Value} {y : DataW Unit × List MemPlace} {xa : List Int} (hi : i < cs.length) (h : DataW.trod (fun _ => ()) Tryz.prog W 0 (fun _ => true) false n 64 ((cs.drop i).take (Tryz.prog.cellsOf 64)) = some y)
    (hy : (y.1 = .nil ∧ xa = []) ∨ y.1 = .slice (xa.map litI) []) : ∃ sl : SlV, cs[i]? = some sl.v ∧ Rd numE W sl.v xa := by
  rw [show Tryz.prog.cellsOf 64 = 1 by kernel_rfl] at h
  have e1 : (cs.drop i).take 1 = [cs[i]] := by rw [List.drop_eq_getElem_cons hi]; rfl
  rw [e1] at h
  obtain ⟨dd, pp⟩ := y
  obtain ⟨xs, h1, h2⟩ := rd_raw numE Tryz.underlying64 (by kernel_rfl) h read_num
  obtain ⟨a, c, e2, h3⟩ := id h1
  have hxs : xs = xa := by
    rcases h2 with ⟨e3, rfl⟩ | ⟨D, rest, e3, hd⟩
    · rcases hy with ⟨_, rfl⟩ | hy
      · rfl
      · dsimp only at hy
        rw [e3] at hy
        cases hy
    · rcases hy with ⟨hy, _⟩ | hy
      · dsimp only at hy
        rw [e3] at hy
        cases hy
      · dsimp only at hy
        rw [e3] at hy
        injection hy with hy _
        have hl := congrArg List.length hy
        simp only [List.length_map, List.length_range] at hl
        refine List.ext_getElem hl fun k hk1 hk2 => ?_
        have hk := congrArg (fun l : List (DataW Unit) => l[k]?) hy
        simp only [List.getElem?_map, List.getElem?_range, hk1, List.getElem?_eq_getElem hk2, Option.map_some] at hk
        injection hk with hk
        obtain ⟨n2, pl, ht⟩ := hd k xs[k] (List.getElem?_eq_getElem hk1)
        obtain ⟨b, e0, e4, _⟩ := DataW.trod_int Tryz.underlying3 ht
        injection e4 with e4 _
        rw [e4] at hk
        injection e0 with e0 _
        injection e0 with _ e0
        injection hk with hk
        injection hk with _ hk
        rw [e0, hk]
  subst hxs
  exact ⟨⟨a, xs.length, c⟩, by rw [List.getElem?_eq_getElem hi, e2]; rfl, by rw [e2] at h1; exact h1⟩
theorem ask_pair {W : World} {cs : List Value} {m i : Nat} {y : DataW Unit × List MemPlace} {xa bs : List Int} {Da Db : DataW Unit} (hi : i + 1 < cs.length) (h : DataW.trod (fun _ => ()) Tryz.prog W 0 (fun _ => true) false m 138 ((cs.drop i).take 2) = some y)
    (hy : y.1 = .agg [Da, Db]) (ha : (Da = .nil ∧ xa = []) ∨ Da = .slice (xa.map litI) []) (hb : (Db = .nil ∧ bs = []) ∨ Db = .slice (bs.map litI) []) : ∃ q : SlV × SlV, cs[i]? = some q.1.v ∧ cs[i + 1]? = some q.2.v ∧ Rd numE W q.1.v xa ∧ Rd numE W q.2.v bs := by
  obtain ⟨xs, k, hk, hx, hl, hlen, hg⟩ := DataW.trod_struct Tryz.underlying138 h
  have hcl : ((cs.drop i).take 2).length = 2 := by rw [List.length_take, List.length_drop]; omega
  match xs, hlen, hg, hx with
  | [y0, y1], _, hg, hx =>
    rw [show y = _ from hx] at hy
    injection hy with hy
    injection hy with hy0 hy
    injection hy with hy1 _
    obtain ⟨s0, e0, r0⟩ := raw_nums (xa := xa) (cs := (cs.drop i).take 2) (i := 0) (by omega) (hg 0 _ rfl) (by rw [show y0.1 = Da from hy0]; exact ha)
    obtain ⟨s1, e1, r1⟩ := raw_nums (xa := bs) (cs := (cs.drop i).take 2) (i := 1) (by omega) (hg 1 _ rfl) (by rw [show y1.1 = Db from hy1]; exact hb)
    rw [List.getElem?_take, if_pos (by decide), List.getElem?_drop] at e0 e1
    exact ⟨(s0, s1), e0, e1, r0, r1⟩
theorem of_laid {W : World} (h : laidMetH Tryz.prog lst W) : Known W := by
  have e1 : (lst.filter fun x => x.2.handleName?.isSome) = [("errors.errorType", Rows.laid_errors_errorType)] := by kernel_rfl
  have e2 : (lst.filter fun x => x.2.handleName?.isNone) = [("annex/bits.errTrouble", Rows.laid_annex_bits_errTrouble), ("annex/msg.asked", Rows.laid_annex_msg_asked)] := by kernel_rfl
  unfold laidMetH at h
  rw [e1] at h
  have hh := h.2 _ (List.mem_singleton.2 rfl)
  have h := h.1
  rw [e2] at h
  obtain ⟨ps, ⟨g0, t0, cs0, f0, p0, q0, hg0, ht0, hv0, hd0, ⟨g1, t1, cs1, f1, p1, q1, hg1, ht1, hv1, hd1, hq1, e5⟩, e0⟩, hnd, hrows⟩ := h
  obtain rfl := Option.some.inj (gTrb.symm.trans hg0)
  obtain rfl := Option.some.inj (tTrb.symm.trans ht0)
  obtain rfl := Option.some.inj (gAsk.symm.trans hg1)
  obtain rfl := Option.some.inj (tAsk.symm.trans ht1)
  obtain ⟨l0⟩ := cs0
  obtain ⟨l1⟩ := cs1
  subst e0
  have ok0 : ∀ u v, l0 = [.iface u v] → Value.okWide Tryz.prog W .any 0 u v := fun u v e => by
    subst e
    exact (hrows 1 0 (by simp [MemPlace.row])).2 u v (by simpa using World.var?_cell hg0 hv0 0)
  obtain ⟨a0, s0, rfl, _, _, _, rfl⟩ := errorString_of_trod Tryz.underlying183 rowS Tryz.underlying224 Tryz.underlying245 rfl rfl Tryz.underlying9 (by kernel_rfl) (by kernel_rfl) hd0 ok0
  have hh' : ∃ name u ty, (Rows.laid_errors_errorType : DataW Unit).handleName? = some name ∧ (Tryz.prog.cutTypes.find? (·.1 == "internal/reflectlite.rtype")).map (·.2) = some u ∧ ty < Tryz.prog.types.size ∧ Tryz.prog.rowNamed ty name = true ∧ W.var? Tryz.prog "errors.errorType" = some #[.iface u (.agg #[typeHandle Tryz.prog ty])] := hh
  obtain ⟨name, u, ty, n1, n2, n3, n4, n5⟩ := hh'
  have n1' : name = [101, 114, 114, 111, 114] := (Option.some.inj ((show (Rows.laid_errors_errorType : DataW Unit).handleName? = some [101, 114, 114, 111, 114] by kernel_rfl).symm.trans n1)).symm
  subst n1'
  obtain rfl := rtyp_only n2
  obtain rfl := err_only n3 n4
  have c0 : CelAt 1 [tgt a0] W := celAt_one (by simpa using World.var?_cell hg0 hv0 0)
  have c1 : CelAt 2 [rty 183] W := celAt_one (by
    have := World.var?_cell gTyp n5 0
    refine this.trans ?_
    show some (Value.iface 209 (.agg #[typeHandle Tryz.prog 183])) = some (rty 183)
    have e3 : typeHandle Tryz.prog 183 = .pointer (some ⟨4, 183, none⟩) := by kernel_rfl
    rw [e3])
  have l0 := celAt_lt c0
  have l2 := celAt_lt c1
  have gN : 1 < 4 ∧ 2 < 4 := by decide
  refine ⟨⟨a0, max 1 2 + 1, by omega, fun p hp => ?_⟩, ?_⟩
  · rcases List.mem_cons.1 hp with rfl | hp
    · exact ⟨(show 1 < _ by decide), c0⟩
    · rw [List.mem_singleton.1 hp]
      exact ⟨(show 2 < _ by decide), c1⟩
  have c2 : Tryz.prog.cellsOf 138 = 2 := by kernel_rfl
  obtain ⟨xs, m1, rfl, hx1, hlen, hn, hel⟩ := DataW.trod_array Tryz.underlying139 hd1
  have hlen : l1.length = 22 := hlen.trans (by kernel_rfl)
  rw [c2] at hel
  match xs, hn, hx1, hel with
  | [x0, x1, x2, x3, x4, x5, x6, x7, x8, x9, x10], _, hx1, hel =>
    simp only [Rows.laid_annex_msg_asked, Prod.mk.injEq, DataW.agg.injEq, List.map_cons, List.map_nil, List.cons.injEq, and_true] at hx1
    obtain ⟨⟨e0, e1, e2, e3, e4, e5, e6, e7, e8, e9, e10⟩, _⟩ := hx1
    obtain ⟨q0, u0, v0, r0, s0⟩ := ask_pair (cs := l1) (xa := []) (bs := []) (i := 0) (by omega) (hel 0 (by decide)) e0.symm (.inl ⟨rfl, rfl⟩) (.inl ⟨rfl, rfl⟩)
    obtain ⟨q1, u1, v1, r1, s1⟩ := ask_pair (cs := l1) (xa := [3]) (bs := [8]) (i := 2) (by omega) (hel 1 (by decide)) e1.symm (.inr rfl) (.inr rfl)
    obtain ⟨q2, u2, v2, r2, s2⟩ := ask_pair (cs := l1) (xa := [0]) (bs := [8]) (i := 4) (by omega) (hel 2 (by decide)) e2.symm (.inr rfl) (.inr rfl)
    obtain ⟨q3, u3, v3, r3, s3⟩ := ask_pair (cs := l1) (xa := [0, 1, 2]) (bs := [8, 9]) (i := 6) (by omega) (hel 3 (by decide)) e3.symm (.inr rfl) (.inr rfl)
    obtain ⟨q4, u4, v4, r4, s4⟩ := ask_pair (cs := l1) (xa := [0, 1, 7]) (bs := [8]) (i := 8) (by omega) (hel 4 (by decide)) e4.symm (.inr rfl) (.inr rfl)
    obtain ⟨q5, u5, v5, r5, s5⟩ := ask_pair (cs := l1) (xa := [0, 4]) (bs := [8]) (i := 10) (by omega) (hel 5 (by decide)) e5.symm (.inr rfl) (.inr rfl)
    obtain ⟨q6, u6, v6, r6, s6⟩ := ask_pair (cs := l1) (xa := [0, 4]) (bs := []) (i := 12) (by omega) (hel 6 (by decide)) e6.symm (.inr rfl) (.inl ⟨rfl, rfl⟩)
    obtain ⟨q7, u7, v7, r7, s7⟩ := ask_pair (cs := l1) (xa := [0, 4]) (bs := [8]) (i := 14) (by omega) (hel 7 (by decide)) e7.symm (.inr rfl) (.inr rfl)
    obtain ⟨q8, u8, v8, r8, s8⟩ := ask_pair (cs := l1) (xa := [0, 4]) (bs := []) (i := 16) (by omega) (hel 8 (by decide)) e8.symm (.inr rfl) (.inl ⟨rfl, rfl⟩)
    obtain ⟨q9, u9, v9, r9, s9⟩ := ask_pair (cs := l1) (xa := [0, 4, 5, 6]) (bs := []) (i := 18) (by omega) (hel 9 (by decide)) e9.symm (.inr rfl) (.inl ⟨rfl, rfl⟩)
    obtain ⟨q10, u10, v10, r10, s10⟩ := ask_pair (cs := l1) (xa := [0, 2, 4]) (bs := [10, 11]) (i := 20) (by omega) (hel 10 (by decide)) e10.symm (.inr rfl) (.inr rfl)
    have hcell : ∀ i v, l1[i]? = some v → W.cell? ⟨0, i, none⟩ = some v := fun i v hv => by
      rw [World.var?_cell hg1 hv1 i, ← hv]; simp
    refine ⟨[q0, q1, q2, q3, q4, q5, q6, q7, q8, q9, q10], rfl, ⟨_, _, rfl, Nat.le_refl _, by decide, .inr ⟨_, 0, rfl, fun i x hx j u hj => ?_⟩⟩, fun op h1 h2 => ?_⟩
    · match i, hx with
      | 0, hx =>
        cases hx
        match j, hj with
        | 0, hj => cases hj; exact hcell _ _ u0
        | 1, hj => cases hj; exact hcell _ _ v0
        | k + 2, hj => simp [slpE] at hj
      | 1, hx =>
        cases hx
        match j, hj with
        | 0, hj => cases hj; exact hcell _ _ u1
        | 1, hj => cases hj; exact hcell _ _ v1
        | k + 2, hj => simp [slpE] at hj
      | 2, hx =>
        cases hx
        match j, hj with
        | 0, hj => cases hj; exact hcell _ _ u2
        | 1, hj => cases hj; exact hcell _ _ v2
        | k + 2, hj => simp [slpE] at hj
      | 3, hx =>
        cases hx
        match j, hj with
        | 0, hj => cases hj; exact hcell _ _ u3
        | 1, hj => cases hj; exact hcell _ _ v3
        | k + 2, hj => simp [slpE] at hj
      | 4, hx =>
        cases hx
        match j, hj with
        | 0, hj => cases hj; exact hcell _ _ u4
        | 1, hj => cases hj; exact hcell _ _ v4
        | k + 2, hj => simp [slpE] at hj
      | 5, hx =>
        cases hx
        match j, hj with
        | 0, hj => cases hj; exact hcell _ _ u5
        | 1, hj => cases hj; exact hcell _ _ v5
        | k + 2, hj => simp [slpE] at hj
      | 6, hx =>
        cases hx
        match j, hj with
        | 0, hj => cases hj; exact hcell _ _ u6
        | 1, hj => cases hj; exact hcell _ _ v6
        | k + 2, hj => simp [slpE] at hj
      | 7, hx =>
        cases hx
        match j, hj with
        | 0, hj => cases hj; exact hcell _ _ u7
        | 1, hj => cases hj; exact hcell _ _ v7
        | k + 2, hj => simp [slpE] at hj
      | 8, hx =>
        cases hx
        match j, hj with
        | 0, hj => cases hj; exact hcell _ _ u8
        | 1, hj => cases hj; exact hcell _ _ v8
        | k + 2, hj => simp [slpE] at hj
      | 9, hx =>
        cases hx
        match j, hj with
        | 0, hj => cases hj; exact hcell _ _ u9
        | 1, hj => cases hj; exact hcell _ _ v9
        | k + 2, hj => simp [slpE] at hj
      | 10, hx =>
        cases hx
        match j, hj with
        | 0, hj => cases hj; exact hcell _ _ u10
        | 1, hj => cases hj; exact hcell _ _ v10
        | k + 2, hj => simp [slpE] at hj
      | k + 11, hx => simp at hx
    · match op, h1, h2 with
      | 1, _, _ => exact ⟨q1, rfl, r1, s1⟩
      | 2, _, _ => exact ⟨q2, rfl, r2, s2⟩
      | 3, _, _ => exact ⟨q3, rfl, r3, s3⟩
      | 4, _, _ => exact ⟨q4, rfl, r4, s4⟩
      | 5, _, _ => exact ⟨q5, rfl, r5, s5⟩
      | 6, _, _ => exact ⟨q6, rfl, r6, s6⟩
      | 7, _, _ => exact ⟨q7, rfl, r7, s7⟩
      | 8, _, _ => exact ⟨q8, rfl, r8, s8⟩
      | 9, _, _ => exact ⟨q9, rfl, r9, s9⟩
      | 10, _, _ => exact ⟨q10, rfl, r10, s10⟩
      | k + 11, _, h2 => exact absurd h2 (by omega)
end Go.Proofs.YtfolhmlldoepfaaGreatDoor
