import Derived.Test.YtjnnlfeohbidhaaDoorEngX
import Derived.Test.YtjnnlfeohbidhaaDoorEngV
namespace Go.Proofs.YtjnnlfeohbidhaaDoor
open Go

/-! ### Parts of slices -/
section
variable {X : Type} {E : Elem X} {w : World} {xs : List X}
theorem Rd.sub {g off len cap i j : Nat} (h : Rd E w (.slice (some ⟨g, off, none⟩) len cap) xs) (h1 : i ≤ j) (h2 : j ≤ xs.length) : Rd E w (.slice (some ⟨g, if cap = i then off else off + i * E.sz, none⟩) (j - i) (cap - i)) ((xs.drop i).take (j - i)) := by
  obtain ⟨a, c, e, l1, l2, l3⟩ := h
  injection e with e1 e2 e3
  subst e3
  have hlen : ((xs.drop i).take (j - i)).length = j - i := by rw [List.length_take, List.length_drop]; omega
  refine ⟨_, _, by rw [hlen], by rw [hlen]; omega, by omega, ?_⟩
  by_cases hij : i = j
  · left
    rw [hij, Nat.sub_self, List.take_zero]
  · right
    have hx : xs ≠ [] := by
      intro e
      rw [e] at h2
      simp at h2
      omega
    obtain ⟨g', off', e4, hc⟩ := l3.resolve_left hx
    rw [← e1] at e4
    injection e4 with e4
    injection e4 with e4 e5
    subst e4 e5
    have hci : ¬ cap = i := by omega
    rw [if_neg hci]
    refine ⟨g, _, rfl, fun k x hk u v hv => ?_⟩
    have hk2 : k < j - i := by
      have := (List.getElem?_eq_some_iff.1 hk).1
      rwa [hlen] at this
    rw [List.getElem?_take_of_lt hk2, List.getElem?_drop] at hk
    have := hc _ x hk u v hv
    rw [show off + i * E.sz + k * E.sz + u = off + (i + k) * E.sz + u by rw [Nat.add_mul]; omega]
    exact this
end
section
variable {P : Program} {n : Nat} {ds : List Deferred} {ops : Array Oper} {ev wk : Nat → Bool} {K : Env → (World → Prop) → Prop} {r : List Oper} {o : Oper} {k : Nat} {e : Env} {C : World → Prop} {w0 : World} {F0 : Nat → Prop} {L L' : List Asn}
theorem addr_sub (g off m : Nat) (c : Prop) [Decidable c] : (if c then some (⟨g, off, none⟩ : Addr) else some ((⟨g, off, none⟩ : Addr).add m)) = some ⟨g, if c then off else off + m, none⟩ := by
  split <;> simp [add_lit]
/-- s[i:j]. -/
theorem h_cut {t el len cap g off s : Nat} {x y z : Operand} {q q2 : IntKind} (i j : Nat) (ho : o.op = .slice t x (some y) (some z) none) (hx : e.op x = some (.slice (some ⟨g, off, none⟩) len cap)) (hy : e.op y = some (.int q (i : Int))) (hz : e.op z = some (.int q2 (j : Int))) (hu : P.underlying t = some (.slice el)) (hs : SizeOf P el s) (hi : i ≤ j ∧ j ≤ cap)
    {dd : Nat} (hdst : o.dst = some dd) (hd : okD n (some dd) = true) (h : HX P n ds ops ev wk K r (k + 1) ((dd, .slice (some ⟨g, if cap = i then off else off + i * s, none⟩) (j - i) (cap - i)) :: e) C) : HX1 P n ds ops ev wk K o r k e C :=
  h_sliceFT ho hx hy hz hu hs (by omega) hdst hd (by
    simp only [Option.map_some, Int.toNat_natCast, addr_sub]
    exact h)
/-- s[i:]. -/
theorem h_cutFrom {t el len cap g off s : Nat} {x y : Operand} {q : IntKind} (i : Nat) (ho : o.op = .slice t x (some y) none none) (hx : e.op x = some (.slice (some ⟨g, off, none⟩) len cap)) (hy : e.op y = some (.int q (i : Int))) (hu : P.underlying t = some (.slice el)) (hs : SizeOf P el s) (hi : i ≤ len)
    {dd : Nat} (hdst : o.dst = some dd) (hd : okD n (some dd) = true) (h : HX P n ds ops ev wk K r (k + 1) ((dd, .slice (some ⟨g, if cap = i then off else off + i * s, none⟩) (len - i) (cap - i)) :: e) C) : HX1 P n ds ops ev wk K o r k e C :=
  h_sliceFrom ho hx hy hu hs (by omega) hdst hd (by
    simp only [Option.map_some, Int.toNat_natCast, addr_sub]
    exact h)
theorem h_shrU {t t2 : TypeId} {x y : Operand} {q2 : IntKind} {a b : Int} (ho : o.op = .binOp .shr t x y t2) (hx : e.op x = some (.int .u64 a)) (hy : e.op y = some (.int q2 b)) (hb : 0 ≤ b ∧ b ≤ 64)
    {dd : Nat} (hdst : o.dst = some dd) (hd : okD n (some dd) = true) (h : HX P n ds ops ev wk K r (k + 1) ((dd, .int .u64 (a / 2 ^ b.toNat)) :: e) C) : HX1 P n ds ops ev wk K o r k e C := h_shr ho hx hy hb hdst hd h
theorem h_shlU {t t2 : TypeId} {x y : Operand} {q2 : IntKind} {a b : Int} (ho : o.op = .binOp .shl t x y t2) (hx : e.op x = some (.int .u64 a)) (hy : e.op y = some (.int q2 b)) (hb : 0 ≤ b ∧ b ≤ 64)
    {dd : Nat} (hdst : o.dst = some dd) (hd : okD n (some dd) = true) (h : HX P n ds ops ev wk K r (k + 1) ((dd, .int .u64 (IntKind.u64.wrap (a * 2 ^ b.toNat))) :: e) C) : HX1 P n ds ops ev wk K o r k e C := h_shl ho hx hy hb hdst hd h
/-- A new array, all its elements told. -/
theorem h_buildSliceB {t el len size : Nat} {ps : Array (Nat × Operand)} {vs : List Value} {zv : Value} (hev : ev k = true) (hwk : wk k = false) (ho : o.op = .buildSlice t len ps) (hu : P.underlying t = some (.slice el)) (hs : SizeOf P el size) (hz : ZeroOf P el zv) (hvs : e.elems 0 ps.toList = some vs) (hlen : Nat.beq vs.length len = true) (hsz : (vs.all fun v => Nat.beq v.cells.toList.length size) = true) (hbig : len * size ≤ 2 ^ 24)
    {dd : Nat} (hdst : o.dst = some dd) (hd : okD n (some dd) = true) (h : ∀ b, HX P n ds ops ev wk K r (k + 1) ((dd, .slice (some ⟨b, 0, none⟩) len len) :: e) (St w0 F0 (Blk b (.cells (vs.flatMap (fun v => v.cells.toList)).toArray el (0, 0)) :: L))) : HX1 P n ds ops ev wk K o r k e (St w0 F0 L) :=
  h_buildSlice hev hwk ho hu hs hz hvs hlen (fun v hv => by have := Nat.eq_of_beq_eq_true (List.all_eq_true.1 hsz v hv); rwa [Array.length_toList] at this) hbig hdst hd h
/-- An array by value, all its elements told. -/
theorem h_buildA {t el len size : Nat} {ps : Array (Nat × Operand)} {vs : List Value} {zv : Value} (ho : o.op = .build t ps) (hu : P.underlying t = some (.array len el)) (hs : SizeOf P el size) (hz : ZeroOf P t zv) (hzs : zv.cells.size = len * size) (hvs : e.elems 0 ps.toList = some vs) (hlen : Nat.beq vs.length len = true) (hsz : ∀ v ∈ vs, v.cells.size = size)
    {dd : Nat} (hdst : o.dst = some dd) (hd : okD n (some dd) = true) (h : HX P n ds ops ev wk K r (k + 1) ((dd, .agg (vs.flatMap (fun v => v.cells.toList)).toArray) :: e) C) : HX1 P n ds ops ev wk K o r k e C :=
  hx1_pure (by rw [ho]; rfl) hdst hd (fun a w ha => by
    obtain ⟨e1, e2⟩ := ha.elems hvs
    have hl := Nat.eq_of_beq_eq_true hlen
    have e3 : ps.map (fun (i, x) => (i, a.eval x)) = ((vs.zipIdx 0).map (fun p => (p.2, p.1))).toArray := by
      rw [← e1]
      exact Array.ext' (by simp)
    have hfill := fill_full (size := size) vs 0 zv.cells [] hsz (by simp) (by rw [hzs, Nat.zero_add, hl]) (by simp)
    simp only [execOp, ho, e3, Instr.build]
    simp [run_zero hz, run_und hu, run_size hs]
    simp at hfill
    simp [hfill]) h
/-- A call that only reads, where what it reads is known of the world. -/
theorem h_callRd {c : Call} {f : FuncId} {fo : Operand} {vs : List Value} {cap : Array Value} {v : Value} (ho : o.op = .call c) (hc : c.callee = .value fo) (hf : e.op fo = some (.func (.func f) #[] cap)) (hvs : e.ops c.args.toList = some vs)
    {dd : Nat} (hdst : o.dst = some dd) (hd : okD n (some dd) = true) (he : Enters P f) (hs : ∀ w, St w0 F0 L w → Calls P f (vs ++ cap.toList).toArray w (fun en w' => en = .returned v ∧ But w w' nowhere))
    (h : HX P n ds ops ev wk K r (k + 1) ((dd, v) :: e) (St w0 F0 L)) : HX1 P n ds ops ev wk K o r k e (St w0 F0 L) :=
  h_callR ho hc hf hvs hdst hd he hs h
end
theorem setMany_all {cs : Array Value} {vs : List Value} (h : vs.length = cs.size) : setMany cs 0 vs = vs.toArray := by
  apply Array.ext_getElem?
  intro j
  rw [setMany_get vs cs 0 j (by omega)]
  by_cases hj : j < vs.length
  · rw [if_pos (by omega)]
    simp
  · rw [if_neg (by omega), Array.getElem?_eq_none (by omega)]
    simp
    omega
theorem setMany_one {cs : Array Value} {off : Nat} {v : Value} : setMany cs off [v] = (cs.toList.set off v).toArray := by
  apply Array.ext'
  simp [setMany]
/-- One cell is written. -/
theorem h_store1 {P : Program} {n : Nat} {ds : List Deferred} {ops : Array Oper} {ev wk : Nat → Bool} {K : Env → (World → Prop) → Prop} {r : List Oper} {o : Oper} {k : Nat} {e : Env} {w0 : World} {F0 : Nat → Prop} {L L' : List Asn} {t b off : Nat} {x y : Operand} {cs : Array Value} {bt : TypeId} {v : Value} (hev : ev k = true) (hwk : wk k = false) (ho : o.op = .store t x y) (hdst : o.dst = none) (hx : e.op x = some (.pointer (some ⟨b, off, none⟩))) (hy : e.op y = some v) (hs : SizeOf P t 1)
    (hp : Pull L (Blk b (.cells cs bt (0, 0))) L') (hl : v.cells.toList = [v]) (hr : Nat.ble (off + 1) cs.toList.length = true) (h1 : v.oneCell' = true)
    (h : HX P n ds ops ev wk K r (k + 1) e (St w0 F0 (Blk b (.cells (cs.toList.set off v).toArray bt (0, 0)) :: L'))) : HX1 P n ds ops ev wk K o r k e (St w0 F0 L) := by
  have e2 := Nat.le_of_ble_eq_true hr
  rw [Array.length_toList] at e2
  exact h_store hev hwk ho hdst hx hy hs hp hl rfl e2 (fun u hu => by rw [List.mem_singleton.1 hu]; exact h1) (by rw [setMany_one]; exact h)
/-- A whole block is written. -/
theorem h_storeAll {P : Program} {n : Nat} {ds : List Deferred} {ops : Array Oper} {ev wk : Nat → Bool} {K : Env → (World → Prop) → Prop} {r : List Oper} {o : Oper} {k : Nat} {e : Env} {w0 : World} {F0 : Nat → Prop} {L L' : List Asn} {t b s : Nat} {x y : Operand} {cs : Array Value} {bt : TypeId} {v : Value} {vs : List Value} (hev : ev k = true) (hwk : wk k = false) (ho : o.op = .store t x y) (hdst : o.dst = none) (hx : e.op x = some (.pointer (some ⟨b, 0, none⟩))) (hy : e.op y = some v) (hs : SizeOf P t s)
    (hp : Pull L (Blk b (.cells cs bt (0, 0))) L') (hl : v.cells.toList = vs) (hls : Nat.beq vs.length s = true) (hr : Nat.beq cs.toList.length s = true) (h1 : ∀ u ∈ vs, u.oneCell' = true)
    (h : HX P n ds ops ev wk K r (k + 1) e (St w0 F0 (Blk b (.cells vs.toArray bt (0, 0)) :: L'))) : HX1 P n ds ops ev wk K o r k e (St w0 F0 L) := by
  have e1 := Nat.eq_of_beq_eq_true hls
  have e2 := Nat.eq_of_beq_eq_true hr
  rw [Array.length_toList] at e2
  exact h_store hev hwk ho hdst hx hy hs hp hl e1 (by omega) h1 (by rw [setMany_all (by omega)]; exact h)
/-- A store, where reads may still come: what is left implies D. -/
theorem hd_store {P : Program} {n : Nat} {ds : List Deferred} {ops : Array Oper} {ev : Nat → Bool} {D : World → Prop} {K : Env → (World → Prop) → Prop} {r : List (Nat × Oper)} {e : Env} {w0 : World} {F0 : Nat → Prop} {L L' : List Asn} {i t b off s : Nat} {o : Oper} {x y : Operand} {cs : Array Value} {bt : TypeId} {v : Value} {vs : List Value} (hg : o.guard = none) (hev : ev i = true) (ho : o.op = .store t x y) (hdst : o.dst = none) (hx : e.op x = some (.pointer (some ⟨b, off, none⟩))) (hy : e.op y = some v) (hs : SizeOf P t s)
    (hp : Pull L (Blk b (.cells cs bt (0, 0))) L') (hl : v.cells.toList = vs) (hls : vs.length = s) (hr : off + s ≤ cs.size) (h1 : ∀ u ∈ vs, u.oneCell' = true)
    (hD : ∀ x, St w0 F0 (Blk b (.cells (setMany cs off vs) bt (0, 0)) :: L') x → D x)
    (h : HD P n ds ops ev D K r e (St w0 F0 (Blk b (.cells (setMany cs off vs) bt (0, 0)) :: L'))) : HD P n ds ops ev D K ((i, o) :: r) e (St w0 F0 L) := ⟨fun a ha => by
  simp only [TXD]
  rw [if_pos (by simp [Region.wanted, hg]), if_pos hev]
  intro w hC
  have hC' := hC.perm hp.perm
  have hb := hC'.blk
  subst hl
  obtain ⟨w', hrun, hbut, hh⟩ := run_storeAt (P := P) (v := v) (off := off) hb hs (by simpa using hls) (by simpa using hr) h1
  unfold Oper.wp
  have : (execOp a.eval o).run P w = .ok .skip w' := by simp [execOp, ho, ha.eval hx, ha.eval hy, hrun]
  rw [this]
  refine ⟨_, hC'.put hbut hh, hD, ?_⟩
  rw [hdst]
  exact h.out _ ha⟩
theorem St.blk_holds {X : Type} {E : Elem X} {b m : Nat} {cs : Array Value} {bt : TypeId} {fz : Nat × Nat} {w0 : World} {F0 : Nat → Prop} {L : List Asn} {w : World} (xs : List X) (h : St w0 F0 (Blk b (.cells cs bt fz) :: L) w) (hm : xs.length = m) (hl : m ≤ maxLen)
    (hcs : ∀ i q, xs[i]? = some q → ∀ j u, (E.enc q)[j]? = some u → cs[i * E.sz + j]? = some u) : St w0 F0 (Holds E [(.slice (some ⟨b, 0, none⟩) m m, xs)] :: L) w :=
  h.map (A := Blk b (.cells cs bt fz)) (B := Holds E [(.slice (some ⟨b, 0, none⟩) m m, xs)]) fun F hp => by
    subst hm
    refine ⟨fun q hq => ?_, (Blk b (.cells cs bt fz)).lt hp⟩
    rw [List.mem_singleton.1 hq]
    obtain ⟨h1, h2⟩ := hp
    exact ⟨_, _, rfl, Nat.le_refl _, hl, .inr ⟨b, 0, (h1 b).2 rfl, rfl, fun i x hx j u hu => by rw [blk_cell h2, Nat.zero_add]; exact hcs i x hx j u hu⟩⟩
/-- What a function makes of what it reads: new pieces. -/
def Makes (P : Program) (f : FuncId) (args : List Value) (w : World) (post : Value → List Asn → Prop) : Prop :=
  Calls P f args.toArray w (fun en w' => ∃ v M, en = .returned v ∧ post v M ∧ St w nowhere M w')
/-- The object's first cells are these. -/
def CellsOf (o : Obj) (vs : List Value) : Prop := ∃ (cs : Array Value) (bt : TypeId) (fz : Nat × Nat), o = .cells cs bt fz ∧ ∀ (i : Nat) (v : Value), vs[i]? = some v → cs[i]? = some v
/-- A block of which the first cells are known; it is only read. -/
def Cel (b : Nat) (vs : List Value) (ob : Obj) : Asn where
  p w F := (∀ x, F x ↔ x = b) ∧ w.heap[b]? = some ob ∧ CellsOf ob vs
  lt := fun ⟨h1, h2, _⟩ x hx => by rw [(h1 x).1 hx]; exact (Array.getElem?_eq_some_iff.1 h2).1
  loc := fun ⟨h1, h2, h3⟩ h => ⟨h1, (h b ((h1 b).2 rfl)).trans h2, h3⟩
theorem h_celLoad {P : Program} {n : Nat} {ds : List Deferred} {ops : Array Oper} {ev wk : Nat → Bool} {K : Env → (World → Prop) → Prop} {r : List Oper} {o : Oper} {k : Nat} {e : Env} {w0 : World} {F0 : Nat → Prop} {L L' : List Asn} {t b i : Nat} {x : Operand} {d : TypeDesc} {vs : List Value} {ob : Obj} {v : Value} (ho : o.op = .load t x) (hp : Pull L (Cel b vs ob) L') (hx : e.op x = some (.pointer (some ⟨b, i, none⟩))) (hu : P.underlying t = some d) (hna : aggD d = false)
    (hv : nth vs i = some v) {dd : Nat} (hdst : o.dst = some dd) (hd : okD n (some dd) = true) (h : HX P n ds ops ev wk K r (k + 1) ((dd, v) :: e) (St w0 F0 L)) : HX1 P n ds ops ev wk K o r k e (St w0 F0 L) :=
  hx1_read (by rw [ho]; rfl) (by rw [ho]; rfl) hdst hd (fun a w ha hC => by
    obtain ⟨F, _, hb, cs, bt, fz, rfl, hc⟩ := hC.get hp
    simp [execOp, ho, ha.eval hx, run_load1 hu hna ((blk_cell hb i).trans (hc i v (by rw [← nth_eq]; exact hv)))]) h
/-- In this world the block's first cells are these. -/
def CelAt (b : Nat) (vs : List Value) (w : World) : Prop := ∃ ob, w.heap[b]? = some ob ∧ CellsOf ob vs
theorem CelAt.but {b : Nat} {vs : List Value} {w w' : World} (h : CelAt b vs w) (hb : But w w' nowhere) : CelAt b vs w' := by
  obtain ⟨ob, h1, h2⟩ := h
  exact ⟨ob, (hb.blk b (Array.getElem?_eq_some_iff.1 h1).1 id).trans h1, h2⟩
theorem St.celAt {b : Nat} {vs : List Value} {w0 w : World} {L : List Asn} (h : St w0 nowhere L w) (hc : CelAt b vs w0) : CelAt b vs w := hc.but h.but
/-- A call that leans on such a block, where the block is known of the world alone. -/
theorem Spec.celMakes {P : Program} {f : FuncId} {args : List Value} {b : Nat} {vs : List Value} {post : Value → List Asn → Prop} (h : ∀ ob, Spec P f args [Cel b vs ob] (fun v M => ∃ M', M = Cel b vs ob :: M' ∧ post v M')) {w : World} (hw : CelAt b vs w) : Makes P f args w post := by
  obtain ⟨ob, h1, h2⟩ := hw
  have hs : Star w [Cel b vs ob] (fun x => x = b) := ⟨fun x => x = b, nowhere, ⟨fun _ => Iff.rfl, h1, h2⟩, trivial, fun _ _ h => h.elim, fun _ h => h.elim id False.elim⟩
  refine (h ob w _ hs).mono ?_
  rintro en w' ⟨v, M, rfl, ⟨M', rfl, hp⟩, hst⟩
  refine ⟨v, M', rfl, hp, ?_⟩
  obtain ⟨F, ⟨F1, F2, ⟨g1, g2, g3⟩, s2, s3, s4⟩, hb, hF⟩ := hst
  refine ⟨F2, s2, ⟨hb.os, hb.tape, hb.output, hb.size, fun k hk _ => ?_⟩, fun x hx => ?_⟩
  · by_cases hkb : k = b
    · subst hkb
      rw [g2, h1]
    · exact hb.blk k hk hkb
  · rcases hF x (s4 x (.inr hx)) with h | h
    · exact absurd hx (s3 x ((g1 x).2 h))
    · exact .inr h
theorem st_none' {w w' : World} (h : But w w' nowhere) : St w nowhere [] w' := ⟨nowhere, trivial, h, fun _ h => h.elim⟩
theorem makes_of {P : Program} {n : Nat} {f : FuncId} {fn : Func} {c : Code} {args : List Value} {w : World} {post : Value → List Asn → Prop} (hf : P.funcs[f]? = some fn) (hb : fn.body = some c) (hn : fn.ntmps = n) (hlen : args.length ≤ n)
    (h : HC P n [] c (bodyPost P fn (bodyR w nowhere post)) (envOf 0 args) (St w nowhere [])) : Makes P f args w post :=
  spec_at (pre := []) (F := nowhere) hf hb hn hlen trivial h
end Go.Proofs.YtjnnlfeohbidhaaDoor
