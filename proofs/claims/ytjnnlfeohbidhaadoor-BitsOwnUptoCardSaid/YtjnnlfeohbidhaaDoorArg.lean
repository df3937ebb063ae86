import Derived.Test.YtjnnlfeohbidhaaDoorL5
import Derived.Test.YtjnnlfeohbidhaaDoorLai
import Derived.Below
import Derived.SizedLaws
import Derived.WalkKit
import Derived.SevenTiedAt
import Derived.Test.YtjnnlfeohbidhaaDoorRows
namespace Go.Proofs.YtjnnlfeohbidhaaDoor
open Go Go.Proofs Go.ChangeShapes Go.WideShapes Go.ChangeAt Go.RowKit
set_option maxRecDepth 100000
section
variable {X : Type} {H : Type} {enc : TypeId × Value → H} {P : Program} {W : World} {base : Nat} {spare : Nat → Bool} {held : Bool} {t e : TypeId} {d : DataW H} {ps : List MemPlace}
/-- The reader of a slice that lies in a cell. -/
theorem rd_raw (E : Elem X) {fuel : Nat} {v : Value} (hu : P.underlying t = some (.slice e)) (ce : P.cellsOf e = E.sz) (hf : DataW.trod enc P W base spare held fuel t [v] = some (d, ps))
    (read : ∀ n cs x, DataW.trod enc P W base spare held n e cs = some x → ∃ q, E.enc q = cs) :
    ∃ xs : List X, Rd E W v xs ∧ ((d = .nil ∧ xs = []) ∨ ∃ (D : Nat → DataW H) (rest : List (DataW H)), d = .slice ((List.range xs.length).map D) rest ∧ ∀ i q, xs[i]? = some q → ∃ n pl, DataW.trod enc P W base spare held n e (E.enc q) = some (D i, pl)) := by
  rcases Go.Deep.open_slice hu hf with ⟨hcs, hx⟩ | ⟨x, l, c, m, n, D, Pl, hcs, _, hl, hm, hmm, hx, hc⟩
  · injection hcs with hcs
    subst hcs
    exact ⟨[], ⟨none, 0, rfl, Nat.le_refl _, by decide, .inl rfl⟩, .inl ⟨(Prod.mk.inj hx).1, rfl⟩⟩
  · injection hcs with hcs
    subst hcs
    have hval : Value.okWide P W .any 0 t (.slice (some x) l c) ∨ True := .inr trivial
    have hlm : l ≤ m := by rw [hmm]; split <;> omega
    obtain ⟨hx1, _⟩ := Prod.mk.inj hx
    have each : ∀ i : Fin l, ∃ q : X, (∀ j u, (E.enc q)[j]? = some u → W.cell? ((x.add (i.1 * E.sz)).add j) = some u) ∧ DataW.trod enc P W base spare held n e (E.enc q) = some (D i.1, Pl i.1) := fun i => by
      obtain ⟨cs', h1, h2⟩ := hc i.1 (by omega)
      obtain ⟨q, rfl⟩ := read _ _ _ h2
      rw [ce] at h1
      obtain ⟨_, hlen, hcell⟩ := World.cells?_some h1
      refine ⟨q, fun j u hj => ?_, h2⟩
      have hj' : j < E.sz := by
        have := (List.getElem?_eq_some_iff.1 hj).1
        rwa [E.len] at this
      have := hcell j hj'
      rw [this, hj]
    obtain ⟨q, hq⟩ := Classical.axiomOfChoice each
    by_cases h0 : l = 0
    · subst h0
      refine ⟨[], ⟨some x, c, rfl, Nat.zero_le _, hm, .inl rfl⟩, .inr ⟨D, _, hx1, fun i q hq => by simp at hq⟩⟩
    · obtain ⟨g, off, sp⟩ := x
      have hsp : sp = none := by
        obtain ⟨z, hz⟩ : ∃ z : Fin l, z.1 = 0 := ⟨⟨0, Nat.pos_of_ne_zero h0⟩, rfl⟩
        obtain ⟨h1, _⟩ := hq z
        cases sp with
        | none => rfl
        | some s =>
          have hpos : 0 < (E.enc (q z)).length := by rw [E.len]; exact E.pos
          have h2 := h1 0 _ (List.getElem?_eq_getElem hpos)
          rw [hz, Nat.zero_mul] at h2
          simp [Addr.add, World.cell?] at h2
          split at h2 <;> cases h2
      subst hsp
      have hln : (List.ofFn q).length = l := List.length_ofFn
      refine ⟨List.ofFn q, ⟨some ⟨g, off, none⟩, c, by rw [hln], by rw [hln]; exact hl, hm, .inr ⟨g, off, rfl, fun i p hi j u hj => ?_⟩⟩, .inr ⟨D, _, by rw [hln]; exact hx1, fun i p hi => ?_⟩⟩
      · rw [List.getElem?_ofFn] at hi
        split at hi
        · rename_i hlt
          injection hi with hi
          subst hi
          have := (hq ⟨i, hlt⟩).1 j u hj
          rwa [add_lit, add_lit] at this
        · cases hi
      · rw [List.getElem?_ofFn] at hi
        split at hi
        · rename_i hlt
          injection hi with hi
          subst hi
          exact ⟨_, _, (hq ⟨i, hlt⟩).2⟩
        · cases hi
end
section
variable {H : Type} {enc : TypeId × Value → H} {w : World} {base : Nat} {spare : Nat → Bool} {held : Bool} {r : Reach} {b0 : Nat} {v : Value} {d : DataW H} {p : List MemPlace}
theorem cut1 {α : Type} {cs : List α} {i : Nat} {v : α} (h : (cs.drop i).take 1 = [v]) : cs[i]? = some v := by
  have := congrArg (fun l : List α => l[0]?) h
  simpa [List.getElem?_drop] using this
theorem wf_i64 {a : Int} (h : (Lit.int .i64 a).wf = true) : -9223372036854775808 ≤ a ∧ a ≤ 9223372036854775807 := by
  simp [Lit.wf, IntKind.min, IntKind.max, IntKind.signed, IntKind.bits] at h
  omega
theorem wf_u64 {a : Int} (h : (Lit.int .u64 a).wf = true) : 0 ≤ a ∧ a ≤ 18446744073709551615 := by
  simp [Lit.wf, IntKind.min, IntKind.max, IntKind.signed, IntKind.bits] at h
  omega
theorem read_byte : ∀ n cs x, DataW.trod enc Tryd.prog w base spare held n 5 cs = some x → ∃ q, byteE.enc q = cs := by
  intro n cs x hf
  obtain ⟨a, e0, _, _⟩ := DataW.trod_int Tryd.underlying5 hf
  exact ⟨a, e0.symm⟩
theorem byts_of {bs : List Int} {D : Nat → DataW H} (hd : ∀ i q, bs[i]? = some q → ∃ n pl, DataW.trod enc Tryd.prog w base spare held n 5 (byteE.enc q) = some (D i, pl)) : Byts bs := fun x hx => by
  obtain ⟨i, hi⟩ := List.mem_iff_getElem?.1 hx
  obtain ⟨n, pl, ht⟩ := hd i x hi
  obtain ⟨a, e0, _, wf⟩ := DataW.trod_int Tryd.underlying5 ht
  injection e0 with e0
  injection e0 with _ e0
  subst e0
  simp [Lit.wf, IntKind.min, IntKind.max, IntKind.signed, IntKind.bits] at wf
  omega
theorem arg_bytes (hv : Value.okWide Tryd.prog w r b0 22 v) (h : DataW.Trod enc Tryd.prog w base spare held 22 v d p) :
    ∃ bs, Rd byteE w v bs ∧ Byts bs ∧ ((d = .nil ∧ bs = []) ∨ ∃ (D : Nat → DataW H) (rest : List (DataW H)), d = .slice ((List.range bs.length).map D) rest) := by
  obtain ⟨bs, h1, h2⟩ := rd_gen byteE Tryd.underlying22 (by kernel_rfl) hv h read_byte
  refine ⟨bs, h1, ?_, h2.imp id fun ⟨D, rest, e, _⟩ => ⟨D, rest, e⟩⟩
  rcases h2 with ⟨_, rfl⟩ | ⟨D, rest, _, hd⟩
  · intro x hx; cases hx
  · exact byts_of hd
theorem bytes_len {ts : List TypeId} {ds : List (DataW H)} {jj : Nat} {bs : List Int} (hsz : (DataW.weightsEach Tryd.prog ts ds).all (· ≤ reachBytes) = true) (htj : ts[jj]? = some 22) (hdj : ds[jj]? = some d)
    (dd : (d = .nil ∧ bs = []) ∨ ∃ (D : Nat → DataW H) (rest : List (DataW H)), d = .slice ((List.range bs.length).map D) rest) : bs.length ≤ 140737488351232 := by
  rcases dd with ⟨_, rfl⟩ | ⟨D, rest, rfl⟩
  · exact Nat.zero_le _
  · have z := sized_slice hsz htj hdj Tryd.underlying22
    rw [show Tryd.prog.bytesOf 5 = 1 by kernel_rfl] at z
    simp only [List.length_map, List.length_range] at z
    have hr : reachBytes = 140737488351232 := by decide
    omega
theorem bulk_pos : ∀ d : DataW H, 1 ≤ Rows.uptoBulk d
  | .lit (.string _) => by simp [Rows.uptoBulk]
  | .lit (.int ..) => by simp [Rows.uptoBulk]
  | .lit (.bool _) => by simp [Rows.uptoBulk]
  | .lit (.float ..) => by simp [Rows.uptoBulk]
  | .lit .nil => by simp [Rows.uptoBulk]
  | .nil => by simp [Rows.uptoBulk]
  | .ptr _ => by simp [Rows.uptoBulk]
  | .slice .. => by simp [Rows.uptoBulk]
  | .agg _ => by simp [Rows.uptoBulk]
  | .iface .. => by simp [Rows.uptoBulk]
  | .map _ => by simp [Rows.uptoBulk]
  | .held _ => by simp [Rows.uptoBulk]
theorem bulk_all : ∀ (l : List (DataW H)), l.length ≤ Rows.uptoBulkAll l
  | [] => by simp
  | d :: l => by
    have := bulk_all l
    have := bulk_pos d
    simp only [Rows.uptoBulkAll, List.length_cons]
    omega
theorem bytes_bulk {bs : List Int} (dd : (d = .nil ∧ bs = []) ∨ ∃ (D : Nat → DataW H) (rest : List (DataW H)), d = .slice ((List.range bs.length).map D) rest) : bs.length ≤ Rows.uptoBulk d := by
  rcases dd with ⟨_, rfl⟩ | ⟨D, rest, rfl⟩
  · exact Nat.zero_le _
  · have := bulk_all ((List.range bs.length).map D)
    simp only [List.length_map, List.length_range] at this
    simp only [Rows.uptoBulk]
    omega
theorem read_int : ∀ n cs x, DataW.trod enc Tryd.prog w base spare held n 3 cs = some x → ∃ q, intE.enc q = cs := by
  intro n cs x hf
  obtain ⟨a, e0, _, _⟩ := DataW.trod_int Tryd.underlying3 hf
  exact ⟨a, e0.symm⟩
theorem arg_ints (hv : Value.okWide Tryd.prog w r b0 38 v) (h : DataW.Trod enc Tryd.prog w base spare held 38 v d p) :
    ∃ xs, Rd intE w v xs ∧ (∀ x ∈ xs, -9223372036854775808 ≤ x ∧ x ≤ 9223372036854775807) ∧ ((d = .nil ∧ xs = []) ∨ ∃ (D : Nat → DataW H) (rest : List (DataW H)), d = .slice ((List.range xs.length).map D) rest) := by
  obtain ⟨xs, h1, h2⟩ := rd_gen intE Tryd.underlying38 (by kernel_rfl) hv h read_int
  refine ⟨xs, h1, fun x hx => ?_, h2.imp id fun ⟨D, rest, e, _⟩ => ⟨D, rest, e⟩⟩
  rcases h2 with ⟨_, rfl⟩ | ⟨D, rest, _, hd⟩
  · cases hx
  · obtain ⟨i, hi⟩ := List.mem_iff_getElem?.1 hx
    obtain ⟨n, pl, ht⟩ := hd i x hi
    obtain ⟨a, e0, _, wf⟩ := DataW.trod_int Tryd.underlying3 ht
    injection e0 with e0
    injection e0 with _ e0
    subst e0
    exact wf_i64 wf
/-- What is known of a field that is handed in. -/
structure ItR (w : World) (t : ItM) (ds : List Int) : Prop where
  rd : Rd byteE w t.sl.v ds
  byts : Byts ds
  x : -9223372036854775808 ≤ t.x ∧ t.x ≤ 9223372036854775807
  s : 0 ≤ t.s ∧ t.s ≤ 18446744073709551615
theorem raw_int {n i : Nat} {cs : List Value} {y : DataW H × List MemPlace} (h : DataW.trod enc Tryd.prog w base spare held n 3 ((cs.drop i).take (Tryd.prog.cellsOf 3)) = some y) : ∃ a : Int, cs[i]? = some (.int .i64 a) ∧ (Lit.int .i64 a).wf = true := by
  rw [show Tryd.prog.cellsOf 3 = 1 by kernel_rfl] at h
  obtain ⟨a, e0, _, wf⟩ := DataW.trod_int Tryd.underlying3 h
  exact ⟨a, cut1 e0, wf⟩
theorem raw_u64 {n i : Nat} {cs : List Value} {y : DataW H × List MemPlace} (h : DataW.trod enc Tryd.prog w base spare held n 26 ((cs.drop i).take (Tryd.prog.cellsOf 26)) = some y) : ∃ a : Int, cs[i]? = some (.int .u64 a) ∧ (Lit.int .u64 a).wf = true := by
  rw [show Tryd.prog.cellsOf 26 = 1 by kernel_rfl] at h
  obtain ⟨a, e0, _, wf⟩ := DataW.trod_int Tryd.underlying26 h
  exact ⟨a, cut1 e0, wf⟩
theorem raw_bytes {n i : Nat} {cs : List Value} {y : DataW H × List MemPlace} (hi : i < cs.length) (h : DataW.trod enc Tryd.prog w base spare held n 22 ((cs.drop i).take (Tryd.prog.cellsOf 22)) = some y) :
    ∃ (sl : SlV) (bs : List Int), cs[i]? = some sl.v ∧ Rd byteE w sl.v bs ∧ Byts bs ∧ bs.length ≤ Rows.uptoBulk y.1 := by
  rw [show Tryd.prog.cellsOf 22 = 1 by kernel_rfl] at h
  have e1 : (cs.drop i).take 1 = [cs[i]] := by rw [List.drop_eq_getElem_cons hi]; rfl
  rw [e1] at h
  obtain ⟨dd, pp⟩ := y
  obtain ⟨bs, h1, h2⟩ := rd_raw byteE Tryd.underlying22 (by kernel_rfl) h read_byte
  obtain ⟨a, c, e2, h3⟩ := id h1
  refine ⟨⟨a, bs.length, c⟩, bs, by rw [List.getElem?_eq_getElem hi, e2]; rfl, by rw [e2] at h1; exact h1, ?_, bytes_bulk (h2.imp id fun ⟨D, rest, e, _⟩ => ⟨D, rest, e⟩)⟩
  rcases h2 with ⟨_, rfl⟩ | ⟨D, rest, _, hd⟩
  · intro x hx; cases hx
  · exact byts_of hd
theorem read_item : ∀ n cs x, DataW.trod enc Tryd.prog w base spare held n 28 cs = some x → ∃ (q : ItM) (ds : List Int), itE.enc q = cs ∧ ItR w q ds ∧ ds.length + 1 ≤ Rows.uptoBulk x.1 := by
  intro n cs x hf
  obtain ⟨xs, k, hk, hx, hl, hlen, hg⟩ := DataW.trod_struct Tryd.underlying28 hf
  have hl : cs.length = 4 := hl.trans (by kernel_rfl)
  match xs, hlen, hg with
  | [y0, y1, y2, y3], _, hg =>
    obtain ⟨a0, e0, _⟩ := raw_int (cs := cs) (hg 0 _ rfl)
    obtain ⟨a1, e1, w1⟩ := raw_int (cs := cs) (hg 1 _ rfl)
    obtain ⟨a2, e2, w2⟩ := raw_u64 (cs := cs) (hg 2 _ rfl)
    obtain ⟨sl, bs, e3, h3, h4, h5⟩ := raw_bytes (cs := cs) (i := 3) (by omega) (hg 3 _ rfl)
    match cs, hl, e0, e1, e2, e3 with
    | [_, _, _, _], _, e0, e1, e2, e3 =>
      cases e0; cases e1; cases e2; cases e3
      refine ⟨⟨a0, a1, a2, sl⟩, bs, rfl, ⟨h3, h4, wf_i64 w1, wf_u64 w2⟩, ?_⟩
      rw [show x = _ from hx]
      simp only [List.map_cons, List.map_nil, Rows.uptoBulk, Rows.uptoBulkAll]
      omega
theorem arg_items (hv : Value.okWide Tryd.prog w r b0 23 v) (h : DataW.Trod enc Tryd.prog w base spare held 23 v d p) :
    ∃ xs : List (ItM × List Int), Rd itE w v (xs.map (·.1)) ∧ (∀ q ∈ xs, ItR w q.1 q.2) ∧ (xs.map (fun q => q.2.length + 1)).sum ≤ Rows.uptoBulk d := by
  obtain ⟨ts, h1, h2⟩ := rd_gen itE Tryd.underlying23 (by kernel_rfl) hv h (fun n cs x hf => by obtain ⟨q, _, e, _⟩ := read_item n cs x hf; exact ⟨q, e⟩)
  rcases h2 with ⟨_, rfl⟩ | ⟨D, rest, rfl, hd⟩
  · exact ⟨[], h1, (fun q hq => by cases hq), Nat.zero_le _⟩
  · have each : ∀ (l : List ItM) (k : Nat), (∀ i q, l[i]? = some q → ts[k + i]? = some q) → ∃ xs : List (ItM × List Int), xs.map (·.1) = l ∧ (∀ q ∈ xs, ItR w q.1 q.2) ∧ (xs.map (fun q => q.2.length + 1)).sum ≤ Rows.uptoBulkAll ((List.range' k l.length).map D) := by
      intro l
      induction l with
      | nil => exact fun k _ => ⟨[], rfl, fun q hq => (by cases hq), Nat.zero_le _⟩
      | cons q l ih =>
        intro k hk
        obtain ⟨xs, a1, a2, a3⟩ := ih (k + 1) (fun i q' hq' => by have := hk (i + 1) q' (by simpa using hq'); rwa [show k + (i + 1) = k + 1 + i by omega] at this)
        obtain ⟨n, pl, ht⟩ := hd k q (by have := hk 0 q rfl; simpa using this)
        obtain ⟨q', ds, e, hr, hb⟩ := read_item n _ _ ht
        dsimp only at hb
        have eq : q' = q := by
          cases q' with
          | mk k' x' s' sl' =>
            cases q with
            | mk k0 x0 s0 sl0 =>
              simp only [itE, List.cons.injEq, Value.int.injEq, true_and, and_true] at e
              obtain ⟨rfl, rfl, rfl, e4⟩ := e
              cases sl'; cases sl0
              simp only [SlV.v, Value.slice.injEq] at e4
              obtain ⟨rfl, rfl, rfl⟩ := e4
              rfl
        subst eq
        refine ⟨(q', ds) :: xs, by rw [List.map_cons, a1], fun z hz => ?_, ?_⟩
        · rcases List.mem_cons.1 hz with rfl | hz
          · exact hr
          · exact a2 z hz
        · rw [List.length_cons, List.range'_succ]
          simp only [List.map_cons, List.sum_cons, Rows.uptoBulkAll]
          omega
    obtain ⟨xs, e1, e2, e3⟩ := each ts 0 (fun i q h => by rw [Nat.zero_add]; exact h)
    refine ⟨xs, by rw [e1]; exact h1, e2, ?_⟩
    rw [List.range_eq_range']
    simp only [Rows.uptoBulk]
    omega
end
end Go.Proofs.YtjnnlfeohbidhaaDoor
