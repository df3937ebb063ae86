import Derived.Test.YtjnnlfeohbidhaaDoorEngD
import Derived.Laws.CopyRow
namespace Go.Proofs.YtjnnlfeohbidhaaDoor
open Go

/-! ### Memory -/
theorem blk_cell {w : World} {b : Nat} {cs : Array Value} {t : TypeId} {fz : Nat × Nat} (h : w.heap[b]? = some (.cells cs t fz)) (i : Nat) : w.cell? ⟨b, i, none⟩ = cs[i]? := by
  simp [World.cell?, h]
theorem blk_free {w : World} {b : Nat} {cs : Array Value} {t : TypeId} (h : w.heap[b]? = some (.cells cs t (0, 0))) (i : Nat) : w.frozen? ⟨b, i, none⟩ = false := by
  simp [World.frozen?, h]
theorem set_blk {w : World} {b : Nat} {cs : Array Value} {t : TypeId} {fz : Nat × Nat} (h : w.heap[b]? = some (.cells cs t fz)) (i : Nat) (v : Value) : (w.setCell ⟨b, i, none⟩ v).heap[b]? = some (.cells (cs.setIfInBounds i v) t fz) := by
  simp [World.setCell, Array.getElem?_modify, h]
theorem set_but (w : World) (b i : Nat) (v : Value) : But w (w.setCell ⟨b, i, none⟩ v) (fun x => x = b) :=
  ⟨rfl, rfl, rfl, by simp, fun k _ hn => by simp only [World.setCell, Array.getElem?_modify]; rw [if_neg (by intro h; exact hn h.symm)]⟩
theorem But.trans {a b c : World} {S : Nat → Prop} (h : But a b S) (k : But b c S) : But a c S :=
  ⟨k.os.trans h.os, k.tape.trans h.tape, k.output.trans h.output, Nat.le_trans h.size k.size, fun i hi hn => (k.blk i (Nat.lt_of_lt_of_le hi h.size) hn).trans (h.blk i hi hn)⟩

/-- Cells written one behind the other. -/
def setMany (cs : Array Value) (i : Nat) : List Value → Array Value
  | [] => cs
  | v :: l => setMany (cs.setIfInBounds i v) (i + 1) l
theorem setMany_size (l : List Value) : ∀ (cs : Array Value) (i : Nat), (setMany cs i l).size = cs.size := by
  induction l with
  | nil => intro cs i; rfl
  | cons v l ih => intro cs i; simp [setMany, ih]
theorem setMany_get (l : List Value) : ∀ (cs : Array Value) (i j : Nat), i + l.length ≤ cs.size → (setMany cs i l)[j]? = if i ≤ j ∧ j < i + l.length then l[j - i]? else cs[j]? := by
  induction l with
  | nil => intro cs i j _; simp [setMany]; intro h1 h2; omega
  | cons v l ih =>
    intro cs i j h
    simp only [List.length_cons] at h ⊢
    rw [setMany, ih _ _ _ (by simp; omega)]
    by_cases e : j = i
    · subst e
      rw [if_neg (by omega), if_pos (by omega), Array.getElem?_setIfInBounds_self_of_lt (by omega)]
      simp
    · by_cases e2 : i + 1 ≤ j ∧ j < i + 1 + l.length
      · rw [if_pos e2, if_pos (by omega)]
        obtain ⟨d, rfl⟩ : ∃ d, j = i + 1 + d := ⟨j - (i + 1), by omega⟩
        rw [show i + 1 + d - (i + 1) = d by omega, show i + 1 + d - i = d + 1 by omega]
        simp
      · rw [if_neg e2, if_neg (by omega), Array.getElem?_setIfInBounds_ne (by omega)]

section
variable {P : Program}
theorem run_storeCells {b : Nat} {t : TypeId} {off : Nat} : ∀ (vs : List Value) (i : Nat) (cs : Array Value) (w : World), w.heap[b]? = some (.cells cs t (0, 0)) → off + i + vs.length ≤ cs.size → (∀ v ∈ vs, v.oneCell' = true) →
    ∃ w', (storeCells ⟨b, off, none⟩ vs i).run P w = .ok () w' ∧ But w w' (fun x => x = b) ∧ w'.heap[b]? = some (.cells (setMany cs (off + i) vs) t (0, 0)) := by
  intro vs
  induction vs with
  | nil => intro i cs w h _ _; exact ⟨w, by simp [storeCells], .refl _ _, h⟩
  | cons v vs ih =>
    intro i cs w h hl h1
    simp only [List.length_cons] at hl
    have e1 : (⟨b, off, none⟩ : Addr).add i = ⟨b, off + i, none⟩ := by
      unfold Addr.add
      split
      · rename_i h0; rw [h0]; rfl
      · rfl
    obtain ⟨w', hr, hb, hh⟩ := ih (i + 1) (cs.setIfInBounds (off + i) v) (w.setCell ⟨b, off + i, none⟩ v) (set_blk h _ _) (by simp; omega) (fun v hv => h1 v (List.mem_cons_of_mem _ hv))
    refine ⟨w', ?_, (set_but w b (off + i) v).trans hb, hh⟩
    have hc : (w.cell? ⟨b, off + i, none⟩) = some (cs[off + i]'(by omega)) := by rw [blk_cell h]; exact Array.getElem?_eq_getElem _
    have hst := run_store P w ⟨b, off + i, none⟩ v .plain (h1 v (List.mem_cons_self ..))
    unfold storeCells
    simp only [e1]
    rw [Sem.run_bind]
    rw [hst]
    rw [hc, blk_free h]
    exact hr

theorem run_storeAt {b off s : Nat} {t ty : TypeId} {v : Value} {cs : Array Value} {w : World} (h : w.heap[b]? = some (.cells cs t (0, 0))) (hs : SizeOf P ty s) (hl : v.cells.size = s) (hr : off + s ≤ cs.size) (h1 : ∀ u ∈ v.cells.toList, u.oneCell' = true) :
    ∃ w', (Instr.storeAt ty (.pointer (some ⟨b, off, none⟩)) v).run P w = .ok () w' ∧ But w w' (fun x => x = b) ∧ w'.heap[b]? = some (.cells (setMany cs off v.cells.toList) t (0, 0)) := by
  obtain ⟨w', e, hb, hh⟩ := run_storeCells (P := P) (off := off) v.cells.toList 0 cs w h (by simpa [hl] using hr) h1
  exact ⟨w', by simp [Instr.storeAt, Instr.sureAddr, storeVar, run_size hs, hl, e], hb, hh⟩
end

section
variable {P : Program} {n : Nat} {ds : List Deferred} {ops : Array Oper} {ev wk : Nat → Bool} {K : Env → (World → Prop) → Prop} {r : List Oper} {o : Oper} {k : Nat} {e : Env} {w0 : World} {F0 : Nat → Prop} {L L' : List Asn}

theorem St.get {A : Asn} {w : World} (h : St w0 F0 L w) (hp : Pull L A L') : ∃ F, A.p w F :=
  let ⟨_, ⟨F1, _, h1, _⟩, _⟩ := h.perm hp.perm; ⟨F1, h1⟩

/-- A load of one cell. -/
theorem h_load {t b off : Nat} {x : Operand} {cs : Array Value} {bt : TypeId} {fz : Nat × Nat} {d : TypeDesc} {v : Value} (ho : o.op = .load t x) (hx : e.op x = some (.pointer (some ⟨b, off, none⟩))) (hu : P.underlying t = some d) (hna : aggD d = false)
    (hp : Pull L (Blk b (.cells cs bt fz)) L') (hv : nth cs.toList off = some v) {dd : Nat} (hdst : o.dst = some dd) (hd : okD n (some dd) = true) (h : HX P n ds ops ev wk K r (k + 1) ((dd, v) :: e) (St w0 F0 L)) : HX1 P n ds ops ev wk K o r k e (St w0 F0 L) :=
  hx1_read (by rw [ho]; rfl) (by rw [ho]; rfl) hdst hd (fun a w ha hC => by
    obtain ⟨F, _, hb⟩ := hC.get hp
    simp [execOp, ho, ha.eval hx, run_load1 hu hna ((blk_cell hb off).trans (by rw [nth_eq] at hv; simpa using hv))]) h

/-- A load of several cells. -/
theorem h_loadN {t b off s : Nat} {x : Operand} {cs : Array Value} {bt : TypeId} {fz : Nat × Nat} {d : TypeDesc} {vs : List Value} (ho : o.op = .load t x) (hx : e.op x = some (.pointer (some ⟨b, off, none⟩))) (hu : P.underlying t = some d) (hna : aggD d = true) (hs : SizeOf P t s)
    (hp : Pull L (Blk b (.cells cs bt fz)) L') (hl : vs.length = s) (hv : ∀ j v, vs[j]? = some v → cs[off + j]? = some v) {dd : Nat} (hdst : o.dst = some dd) (hd : okD n (some dd) = true) (h : HX P n ds ops ev wk K r (k + 1) ((dd, (.agg vs.toArray)) :: e) (St w0 F0 L)) : HX1 P n ds ops ev wk K o r k e (St w0 F0 L) :=
  hx1_read (by rw [ho]; rfl) (by rw [ho]; rfl) hdst hd (fun a w ha hC => by
    obtain ⟨F, _, hb⟩ := hC.get hp
    have hc : ∀ j v, vs[j]? = some v → w.cell? ((⟨b, off, none⟩ : Addr).add j) = some v := fun j v hj => by
      have e1 : (⟨b, off, none⟩ : Addr).add j = ⟨b, off + j, none⟩ := by
        unfold Addr.add
        split
        · rename_i h0; rw [h0]; rfl
        · rfl
      rw [e1, blk_cell hb]
      exact hv j v hj
    simp [execOp, ho, ha.eval hx, run_loadN hu hna hs hl hc]) h

theorem h_load2 {t b off : Nat} {x : Operand} {cs : Array Value} {bt : TypeId} {fz : Nat × Nat} {d : TypeDesc} {v1 v2 : Value} (ho : o.op = .load t x) (hx : e.op x = some (.pointer (some ⟨b, off, none⟩))) (hu : P.underlying t = some d) (hna : aggD d = true) (hs : SizeOf P t 2)
    (hp : Pull L (Blk b (.cells cs bt fz)) L') (hv1 : nth cs.toList off = some v1) (hv2 : nth cs.toList (off + 1) = some v2) {dd : Nat} (hdst : o.dst = some dd) (hd : okD n (some dd) = true) (h : HX P n ds ops ev wk K r (k + 1) ((dd, .agg #[v1, v2]) :: e) (St w0 F0 L)) : HX1 P n ds ops ev wk K o r k e (St w0 F0 L) :=
  h_loadN (vs := [v1, v2]) ho hx hu hna hs hp rfl (fun j v hj => by
    match j, hj with
    | 0, hj => cases hj; rw [nth_eq] at hv1; simpa using hv1
    | 1, hj => cases hj; rw [nth_eq] at hv2; simpa using hv2) hdst hd h

/-- A store. -/
theorem h_store {t b off s : Nat} {x y : Operand} {cs : Array Value} {bt : TypeId} {v : Value} {vs : List Value} (hev : ev k = true) (hwk : wk k = false) (ho : o.op = .store t x y) (hdst : o.dst = none) (hx : e.op x = some (.pointer (some ⟨b, off, none⟩))) (hy : e.op y = some v) (hs : SizeOf P t s)
    (hp : Pull L (Blk b (.cells cs bt (0, 0))) L') (hl : v.cells.toList = vs) (hls : vs.length = s) (hr : off + s ≤ cs.size) (h1 : ∀ u ∈ vs, u.oneCell' = true)
    (h : HX P n ds ops ev wk K r (k + 1) e (St w0 F0 (Blk b (.cells (setMany cs off vs) bt (0, 0)) :: L'))) : HX1 P n ds ops ev wk K o r k e (St w0 F0 L) :=
  hx1_event hev (fun a w ha hC => by
    have hC' := hC.perm hp.perm
    have hb := hC'.blk
    subst hl
    obtain ⟨w', hrun, hbut, hh⟩ := run_storeAt (P := P) (v := v) (off := off) hb hs (by simpa using hls) (by simpa using hr) h1
    unfold Oper.wp
    have : (execOp a.eval o).run P w = .ok .skip w' := by simp [execOp, ho, ha.eval hx, ha.eval hy, hrun]
    rw [this]
    refine ⟨_, e, hC'.put hbut hh, (fun h => by rw [hwk] at h; cases h), ?_, h⟩
    rw [hdst]
    exact ha)

/-- A new variable. -/
theorem h_box {t : Nat} {x : Operand} {v : Value} {cs : Array Value} (hev : ev k = true) (ho : o.op = .box t x) (hx : e.op x = some v) (hcs : v.cells = cs) {dd : Nat} (hdst : o.dst = some dd) (hd : okD n (some dd) = true)
    (h : ∀ b, HX P n ds ops ev wk K r (k + 1) ((dd, (.pointer (some ⟨b, 0, none⟩))) :: e) (St w0 F0 (Blk b (.cells cs t (0, 0)) :: L))) : HX1 P n ds ops ev wk K o r k e (St w0 F0 L) :=
  hx1_event hev (fun a w ha hC => by
    unfold Oper.wp
    have : (execOp a.eval o).run P w = .ok (.value (.pointer (some ⟨w.heap.size, 0, none⟩))) (w.alloc (.cells cs t (0, 0))) := by
      simp [execOp, ho, ha.eval hx, Instr.box, newVar, newRow, hcs]
    rw [this]
    exact ⟨_, _, hC.new _, fun _ _ hh => hh.drop, (by rw [hdst]; exact ha.put hd _), h _⟩)
theorem h_alloc {t : Nat} {v : Value} {cs : Array Value} (hev : ev k = true) (ho : o.op = .alloc t) (hz : ZeroOf P t v) (hcs : v.cells = cs) {dd : Nat} (hdst : o.dst = some dd) (hd : okD n (some dd) = true)
    (h : ∀ b, HX P n ds ops ev wk K r (k + 1) ((dd, (.pointer (some ⟨b, 0, none⟩))) :: e) (St w0 F0 (Blk b (.cells cs t (0, 0)) :: L))) : HX1 P n ds ops ev wk K o r k e (St w0 F0 L) :=
  hx1_event hev (fun a w ha hC => by
    unfold Oper.wp
    have : (execOp a.eval o).run P w = .ok (.value (.pointer (some ⟨w.heap.size, 0, none⟩))) (w.alloc (.cells cs t (0, 0))) := by
      simp [execOp, ho, Instr.alloc, run_zero hz, newVar, newRow, hcs]
    rw [this]
    exact ⟨_, _, hC.new _, fun _ _ hh => hh.drop, (by rw [hdst]; exact ha.put hd _), h _⟩)

/-! ### Calls -/
/-- Called with args on the pieces pre, f returns: what, and on which pieces, post says. -/
def Spec (P : Program) (f : FuncId) (args : List Value) (pre : List Asn) (post : Value → List Asn → Prop) : Prop :=
  ∀ w F, Star w pre F → Calls P f args.toArray w (fun en w' => ∃ v M, en = .returned v ∧ post v M ∧ St w F M w')

abbrev Enters (P : Program) (f : FuncId) : Prop := ∀ args w, (callFunc f args).run P w = .ok (.enter f args) w

theorem Enters.mk {f : FuncId} {fn : Func} (h : P.funcs[f]? = some fn) (hn : (fn.name == "runtime.NumGoroutine") = false) (hb : fn.body.isSome = true) : Enters P f := fun args w => by
  have hb' : fn.body ≠ none := by intro e0; rw [e0] at hb; cases hb
  have hn' : fn.name ≠ "runtime.NumGoroutine" := by intro e0; rw [e0] at hn; simp at hn
  unfold callFunc
  simp [h, hb', hn']

theorem run_call {a : Act} {c : Call} {f : FuncId} {fo : Operand} {l2 : Array Value} {w : World} {vs : List Value} (he : Enters P f) (hc : c.callee = .value fo) (hf : a.eval fo = .func (.func f) #[] l2) (hvs : c.args.toList.map a.eval = vs) (ho : o.op = .call c) :
    (execOp a.eval o).run P w = .ok (.enter f (vs.toArray ++ l2)) w := by
  have e1 : c.args.map a.eval = vs.toArray := by
    rw [← hvs]
    exact Array.ext' (by simp)
  simp [execOp, ho, resolve, hc, hf, Deferred.ofValue, e1, invoke]
  exact he _ _

/-- A call, on some of the pieces. -/
theorem h_call {c : Call} {f : FuncId} {fo : Operand} {vs : List Value} {cap : Array Value} {pre rest : List Asn} {post : Value → List Asn → Prop} (hev : ev k = true) (hwk : wk k = false) (ho : o.op = .call c) (hc : c.callee = .value fo) (hf : e.op fo = some (.func (.func f) #[] cap)) (hvs : e.ops c.args.toList = some vs)
    {dd : Nat} (hdst : o.dst = some dd) (hd : okD n (some dd) = true) (he : Enters P f) (hpu : Pulls L pre rest) (hs : Spec P f (vs ++ cap.toList) pre post)
    (h : ∀ v M, post v M → HX P n ds ops ev wk K r (k + 1) ((dd, v) :: e) (St w0 F0 (M ++ rest))) : HX1 P n ds ops ev wk K o r k e (St w0 F0 L) :=
  hx1_event hev (fun a w ha hC => by
    have hC' : St w0 F0 (pre ++ rest) w := hC.perm hpu.perm
    unfold Oper.wp
    rw [run_call he hc (ha.eval hf) (ha.evals hvs) ho]
    obtain ⟨F, h1, h2, h3⟩ := hC'
    obtain ⟨F1, F2, s1, s2, s3, s4⟩ := h1.tight.split
    have hcall := hs w F1 s1
    have e1 : (vs ++ cap.toList).toArray = vs.toArray ++ cap := by simp
    rw [e1] at hcall
    refine hcall.mono ?_
    rintro en w' ⟨v, M, rfl, hp, hSt⟩
    refine ⟨St w0 F0 (M ++ rest), _, ?_, (fun h => by rw [hwk] at h; cases h), (by rw [hdst]; exact ha.put hd v), h v M hp⟩
    obtain ⟨G, g1, g2, g3⟩ := hSt
    have t2 := s2.tight
    refine ⟨fun b => G b ∨ (F2 b ∧ b < w.heap.size), g1.join (t2.loc fun b hb => g2.blk b hb.2 fun hb1 => s3 b hb1 hb.1) (fun b hb hc => ?_) (fun _ h => h), ⟨g2.os.trans h2.os, g2.tape.trans h2.tape, g2.output.trans h2.output, Nat.le_trans h2.size g2.size, fun k hk hn => ?_⟩, fun b hb => ?_⟩
    · rcases g3 b hb with h | h
      · exact s3 b h hc.1
      · exact absurd hc.2 (by omega)
    · refine (g2.blk k (Nat.lt_of_lt_of_le hk h2.size) fun hk1 => ?_).trans (h2.blk k hk hn)
      rcases h3 k (s4 k (.inl hk1)).1 with h | h
      · exact hn h
      · omega
    · rcases hb with hb | hb
      · rcases g3 b hb with h | h
        · exact h3 b (s4 b (.inl h)).1
        · exact .inr (Nat.le_trans h2.size h)
      · exact h3 b (s4 b (.inr hb.1)).1)

/-- Facts that hold of each value of a list, as a test. -/
def Spec0 (P : Program) (f : FuncId) (args : List Value) (v : Value) : Prop := Spec P f args [] (fun u M => u = v ∧ M = [])

/-- A call that only reads what there is: one value, whatever else it makes. -/
def Reads (P : Program) (f : FuncId) (args : List Value) (C : World → Prop) (v : Value) : Prop :=
  ∀ w, C w → Calls P f args.toArray w (fun en w' => en = .returned v ∧ But w w' (fun _ => False))

theorem Spec0.reads {f : FuncId} {args : List Value} {v : Value} (h : Spec0 P f args v) (C : World → Prop) : Reads P f args C v := fun w _ => (h w (fun _ => False) trivial).mono fun en w' ⟨u, M, h1, ⟨h2, h3⟩, F, _, hb, _⟩ => by
  subst h2
  exact ⟨h1, hb⟩

theorem h_callR {c : Call} {f : FuncId} {fo : Operand} {vs : List Value} {cap : Array Value} {v : Value} (ho : o.op = .call c) (hc : c.callee = .value fo) (hf : e.op fo = some (.func (.func f) #[] cap)) (hvs : e.ops c.args.toList = some vs)
    {dd : Nat} (hdst : o.dst = some dd) (hd : okD n (some dd) = true) (he : Enters P f) (hs : Reads P f (vs ++ cap.toList) (St w0 F0 L) v)
    (h : HX P n ds ops ev wk K r (k + 1) ((dd, v) :: e) (St w0 F0 L)) : HX1 P n ds ops ev wk K o r k e (St w0 F0 L) := ⟨fun a ha hw => by
  have hp : pureB o.op = false := by
    rw [ho]
    obtain ⟨callee, args, at_⟩ := c
    cases callee with
    | value f => rfl
    | invoke r m => cases hc
    | builtin b => cases hc
  have e1 : (vs ++ cap.toList).toArray = vs.toArray ++ cap := by simp
  have key : ∀ w, St w0 F0 L w → Calls P f (vs.toArray ++ cap) w (fun en w' => en = .returned v ∧ St w0 F0 L w') := fun w hC => by
    have := hs w hC
    rw [e1] at this
    exact this.mono fun en w' ⟨h1, h2⟩ => ⟨h1, hC.same h2⟩
  split
  · intro w hC
    unfold Oper.wp
    rw [run_call he hc (ha.eval hf) (ha.evals hvs) ho]
    refine (key w hC).mono ?_
    rintro en w' ⟨rfl, hC'⟩
    exact ⟨_, hC', fun _ _ h => h, h.out _ ((by rw [hdst]; exact ha.put hd v))⟩
  · refine ⟨v, ?_, h.out _ ((by rw [hdst]; exact ha.put hd v))⟩
    unfold YldK
    rw [if_neg (by simp [hp]), if_pos (by rw [ho]; rfl)]
    refine .inl ⟨hw, fun w hC => ?_⟩
    unfold Oper.quietAt
    rw [run_call he hc (ha.eval hf) (ha.evals hvs) ho]
    exact ⟨rfl, key w hC⟩⟩
end
end Go.Proofs.YtjnnlfeohbidhaaDoor
