import Derived.Test.YtjnnlfeohbidhaaDoorEngN
namespace Go.Proofs.YtjnnlfeohbidhaaDoor
open Go

/-! ### Memory that is only read -/
variable {X : Type}
abbrev nowhere : Nat → Prop := fun _ => False
/-- In w the slice v reads as xs. -/
def Rd (E : Elem X) (w : World) (v : Value) (xs : List X) : Prop :=
  ∃ a cap, v = .slice a xs.length cap ∧ xs.length ≤ cap ∧ cap ≤ maxLen ∧ (xs = [] ∨ ∃ g off, a = some ⟨g, off, none⟩ ∧ ∀ i x, xs[i]? = some x → ∀ j u, (E.enc x)[j]? = some u → w.cell? ⟨g, off + i * E.sz + j, none⟩ = some u)

theorem cell_lt {w : World} {a : Addr} {v : Value} (h : w.cell? a = some v) : a.block < w.heap.size := by
  unfold World.cell? at h
  split at h
  · rename_i hb; exact (Array.getElem?_eq_some_iff.1 hb).1
  · cases h
theorem But.cell {w w' : World} {S : Nat → Prop} (hb : But w w' S) {a : Addr} {v : Value} (hS : ¬ S a.block) (h : w.cell? a = some v) : w'.cell? a = some v := by
  have := hb.blk a.block (cell_lt h) hS
  unfold World.cell? at h ⊢
  rw [this]
  exact h
theorem Rd.but {E : Elem X} {w w' : World} {v : Value} {xs : List X} (h : Rd E w v xs) (hb : But w w' nowhere) : Rd E w' v xs := by
  obtain ⟨a, cap, h1, h2, h3, h4⟩ := h
  refine ⟨a, cap, h1, h2, h3, h4.imp id ?_⟩
  rintro ⟨g, off, e, hc⟩
  exact ⟨g, off, e, fun i x hx j u hu => hb.cell (fun h => h) (hc i x hx j u hu)⟩
theorem St.but {w0 : World} {F0 : Nat → Prop} {L : List Asn} {w : World} (h : St w0 F0 L w) : But w0 w F0 := let ⟨_, _, h2, _⟩ := h; h2
theorem St.rd {E : Elem X} {w0 : World} {L : List Asn} {w : World} {v : Value} {xs : List X} (h : St w0 nowhere L w) (hr : Rd E w0 v xs) : Rd E w v xs := hr.but h.but
theorem St.rdRow {E : Elem X} {T g cap : Nat} {w0 : World} {F0 : Nat → Prop} {L L' : List Asn} {w : World} {xs : List X} (h : St w0 F0 L w) (hp : Pull L (Row E T g cap xs) L') : Rd E w (.slice (some ⟨g, 0, none⟩) xs.length cap) xs := by
  obtain ⟨F, _, cur, hb, h3, h4, h5, h6⟩ := h.get hp
  exact ⟨_, cap, rfl, h3, h4, .inr ⟨g, 0, rfl, fun i x hx j u hu => by rw [blk_cell hb, Nat.zero_add]; exact h6 i x hx j u hu⟩⟩
theorem St.rdRowV {E : Elem X} {T : Nat} {v : Value} {w0 : World} {F0 : Nat → Prop} {L L' : List Asn} {w : World} {xs : List X} (h : St w0 F0 L w) (hp : Pull L (RowV E T v xs) L') : Rd E w v xs := by
  rcases St.rowV.1 (h.perm hp.perm) with ⟨rfl, rfl, _⟩ | ⟨g, cap, rfl, h2⟩
  · exact ⟨none, 0, rfl, Nat.le_refl _, by decide, .inl rfl⟩
  · exact h2.rdRow .head
theorem St.rdBlk {E : Elem X} {b m : Nat} {cs : Array Value} {bt : TypeId} {fz : Nat × Nat} {w0 : World} {F0 : Nat → Prop} {L L' : List Asn} {w : World} (xs : List X) (h : St w0 F0 L w) (hp : Pull L (Blk b (.cells cs bt fz)) L') (hm : xs.length = m) (hl : m ≤ maxLen)
    (hcs : ∀ i q, xs[i]? = some q → ∀ j u, (E.enc q)[j]? = some u → cs[i * E.sz + j]? = some u) : Rd E w (.slice (some ⟨b, 0, none⟩) m m) xs := by
  obtain ⟨F, _, hb⟩ := h.get hp
  subst hm
  exact ⟨_, _, rfl, Nat.le_refl _, hl, .inr ⟨b, 0, rfl, fun i x hx j u hu => by rw [blk_cell hb, Nat.zero_add]; exact hcs i x hx j u hu⟩⟩

theorem flat_row (E : Elem X) : ∀ (l : List X) (i : Nat) (q : X), l[i]? = some q → ∀ (j : Nat) (u : Value), (E.enc q)[j]? = some u → (l.flatMap E.enc).toArray[i * E.sz + j]? = some u := by
  have key : ∀ (l : List X) (i : Nat) (q : X), l[i]? = some q → ∀ (j : Nat) (u : Value), (E.enc q)[j]? = some u → (l.flatMap E.enc)[i * E.sz + j]? = some u := by
    intro l
    induction l with
    | nil => intro i q hq; simp at hq
    | cons q0 l ih =>
      intro i q hq j u hj
      rw [List.flatMap_cons]
      cases i with
      | zero =>
        obtain rfl : q0 = q := by simpa using hq
        have := (List.getElem?_eq_some_iff.1 hj).1
        rw [Nat.zero_mul, Nat.zero_add, List.getElem?_append_left this]
        exact hj
      | succ i =>
        have h1 := ih i q (by simpa using hq) j u hj
        rw [List.getElem?_append_right (by rw [E.len, Nat.add_mul]; omega), E.len, show (i + 1) * E.sz + j - E.sz = i * E.sz + j by rw [Nat.add_mul]; omega]
        exact h1
  intro l i q hq j u hj
  simpa using key l i q hq j u hj

section
variable {P : Program} {n : Nat} {ds : List Deferred} {ops : Array Oper} {ev wk : Nat → Bool} {K : Env → (World → Prop) → Prop} {r : List Oper} {o : Oper} {k : Nat} {e : Env} {w0 : World} {L L' : List Asn} {E : Elem X} {xs : List X}

/-- A load out of a slice that is only read. -/
theorem h_rdLoad {t g off i j : Nat} {x : Operand} {d : TypeDesc} {y : X} {v : Value} (ho : o.op = .load t x) (hr : ∀ i x, xs[i]? = some x → ∀ j u, (E.enc x)[j]? = some u → w0.cell? ⟨g, off + i * E.sz + j, none⟩ = some u) (hx : e.op x = some (.pointer (some ⟨g, off + i * E.sz + j, none⟩))) (hu : P.underlying t = some d) (hna : aggD d = false)
    (hi : xs[i]? = some y) (hv : nth (E.enc y) j = some v) {dd : Nat} (hdst : o.dst = some dd) (hd : okD n (some dd) = true) (h : HX P n ds ops ev wk K r (k + 1) ((dd, v) :: e) (St w0 nowhere L)) : HX1 P n ds ops ev wk K o r k e (St w0 nowhere L) :=
  hx1_read (by rw [ho]; rfl) (by rw [ho]; rfl) hdst hd (fun a w ha hC => by
    have hc := hr i y hi j v (by rw [← nth_eq]; exact hv)
    simp [execOp, ho, ha.eval hx, run_load1 hu hna (hC.but.cell (fun h => h) hc)]) h
/-- .. of a whole element, one cell. -/
theorem h_rdLoad1 {t g off i : Nat} {x : Operand} {d : TypeDesc} {y : X} {v : Value} (ho : o.op = .load t x) (hr : ∀ i x, xs[i]? = some x → ∀ j u, (E.enc x)[j]? = some u → w0.cell? ⟨g, off + i * E.sz + j, none⟩ = some u) (hx : e.op x = some (.pointer (some ⟨g, off + i * E.sz, none⟩))) (hu : P.underlying t = some d) (hna : aggD d = false)
    (hi : xs[i]? = some y) (hv : nth (E.enc y) 0 = some v) {dd : Nat} (hdst : o.dst = some dd) (hd : okD n (some dd) = true) (h : HX P n ds ops ev wk K r (k + 1) ((dd, v) :: e) (St w0 nowhere L)) : HX1 P n ds ops ev wk K o r k e (St w0 nowhere L) :=
  h_rdLoad (j := 0) ho hr hx hu hna hi hv hdst hd h
theorem h_rdLoadN {t g off i : Nat} {x : Operand} {d : TypeDesc} {y : X} {cs : Array Value} (ho : o.op = .load t x) (hr : ∀ i x, xs[i]? = some x → ∀ j u, (E.enc x)[j]? = some u → w0.cell? ⟨g, off + i * E.sz + j, none⟩ = some u) (hx : e.op x = some (.pointer (some ⟨g, off + i * E.sz, none⟩))) (hu : P.underlying t = some d) (hna : aggD d = true) (hs : SizeOf P t E.sz)
    (hi : xs[i]? = some y) (hcs : (E.enc y).toArray = cs) {dd : Nat} (hdst : o.dst = some dd) (hd : okD n (some dd) = true) (h : HX P n ds ops ev wk K r (k + 1) ((dd, .agg cs) :: e) (St w0 nowhere L)) : HX1 P n ds ops ev wk K o r k e (St w0 nowhere L) :=
  hx1_read (by rw [ho]; rfl) (by rw [ho]; rfl) hdst hd (fun a w ha hC => by
    have hc : ∀ j v, (E.enc y)[j]? = some v → w.cell? ((⟨g, off + i * E.sz, none⟩ : Addr).add j) = some v := fun j v hj => by
      have e1 : (⟨g, off + i * E.sz, none⟩ : Addr).add j = ⟨g, off + i * E.sz + j, none⟩ := by
        unfold Addr.add
        split
        · rename_i h0; rw [h0]; rfl
        · rfl
      rw [e1]
      exact hC.but.cell (fun h => h) (hr i y hi j v hj)
    subst hcs
    simp [execOp, ho, ha.eval hx, run_loadN hu hna hs (E.len y) hc]) h

/-- len of a slice of its own, nil or not. -/
theorem h_lenV {F0 : Nat → Prop} {T : Nat} {x : Operand} {t el : TypeId} {ats : Array TypeId} {v : Value} (hev : ev k = true) (ho : o.op = .call { callee := .builtin .len, args := #[x], argTypes := ats }) (hp : Pull L (RowV E T v xs) L') (hat : nth ats.toList 0 = some t) (hu : P.underlying t = some (.slice el))
    (hx : e.op x = some v) {dd : Nat} (hdst : o.dst = some dd) (hd : okD n (some dd) = true) (h : HX P n ds ops ev wk K r (k + 1) ((dd, .int .i64 (xs.length : Int)) :: e) (St w0 F0 L)) : HX1 P n ds ops ev wk K o r k e (St w0 F0 L) :=
  hx1_event hev (fun a w ha hC => by
    unfold Oper.wp
    have : (execOp a.eval o).run P w = .ok (.value (.int .i64 (xs.length : Int))) w := by
      rcases St.rowV.1 (hC.perm hp.perm) with ⟨rfl, rfl, _⟩ | ⟨g, cap, rfl, _⟩
      · simp [execOp, ho, resolve, invoke, builtin, Builtin.len_, ha.eval hx, nth_at hat, run_und hu, goInt]
      · simp [execOp, ho, resolve, invoke, builtin, Builtin.len_, ha.eval hx, nth_at hat, run_und hu, goInt]
    rw [this]
    exact ⟨St w0 F0 L, _, hC, fun _ _ h => h, by rw [hdst]; exact ha.put hd _, h⟩)

/-- A function that takes no piece, at one world. -/
theorem reads_of {f : FuncId} {fn : Func} {c : Code} {args : List Value} {w : World} {v : Value} (hf : P.funcs[f]? = some fn) (hb : fn.body = some c) (hn : fn.ntmps = n) (hlen : args.length ≤ n)
    (h : HC P n [] c (bodyPost P fn (bodyR w nowhere (fun u M => u = v ∧ M = []))) (envOf 0 args) (St w nowhere [])) : Calls P f args.toArray w (fun en w' => en = .returned v ∧ But w w' nowhere) := by
  have := spec_at (pre := []) (F := nowhere) hf hb hn hlen trivial h
  refine this.mono ?_
  rintro en w' ⟨u, M, rfl, ⟨rfl, rfl⟩, hst⟩
  exact ⟨rfl, hst.but⟩
end
end Go.Proofs.YtjnnlfeohbidhaaDoor
