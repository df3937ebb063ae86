import Derived.Test.YtbelfaoolnijiaaEngW
import Derived.Stop.Asserts
namespace Go.Proofs.Ytbelfaoolnijiaa
open Go

/-! ### What is known of package variables -/
/-- The blocks below g are package variables (or what they point to); of some the first cells are known. -/
def Glo (l : List (Nat × List Value)) (g : Nat) (w : World) : Prop := g ≤ w.heap.size ∧ ∀ p ∈ l, p.1 < g ∧ CelAt p.1 p.2 w
theorem Glo.but {l : List (Nat × List Value)} {g : Nat} {w w' : World} {F : Nat → Prop} (h : Glo l g w) (hb : But w w' F) (hF : ∀ b, F b → g ≤ b) : Glo l g w' :=
  ⟨Nat.le_trans h.1 hb.size, fun p hp => by
    obtain ⟨h1, ob, h2, h3⟩ := h.2 p hp
    exact ⟨h1, ob, (hb.blk p.1 (Nat.lt_of_lt_of_le h1 h.1) (fun hf => absurd (hF _ hf) (by omega))).trans h2, h3⟩⟩
theorem Glo.nil (w : World) : Glo [] 0 w := ⟨Nat.zero_le _, fun _ h => by cases h⟩
theorem St.glo {l : List (Nat × List Value)} {g : Nat} {w0 w : World} {F0 : Nat → Prop} {L : List Asn} (h : St w0 F0 L w) (hI : Glo l g w0) (hF : ∀ b, F0 b → g ≤ b) : Glo l g w := hI.but h.but hF
/-- Called with args on the pieces pre, where the package variables are as told, f returns. -/
def SpecI (P : Program) (l : List (Nat × List Value)) (g : Nat) (f : FuncId) (args : List Value) (pre : List Asn) (post : Value → List Asn → Prop) : Prop :=
  ∀ w F, Star w pre F → Glo l g w → (∀ b, F b → g ≤ b) → Calls P f args.toArray w (fun en w' => ∃ v M, en = .returned v ∧ post v M ∧ St w F M w')
/-- .. f panics. -/
def SpecP (P : Program) (f : FuncId) (args : List Value) (pre : List Asn) (post : List PanicEntry → List Asn → Prop) : Prop :=
  ∀ w F, Star w pre F → Calls P f args.toArray w (fun en w' => ∃ ch M, en = .panicked ch ∧ post ch M ∧ St w F M w')
/-- A deferred call of f while the caller panics: f recovers. -/
def SpecDP (P : Program) (l : List (Nat × List Value)) (g : Nat) (f : FuncId) (args : List Value) (ch : List PanicEntry) (pre : List Asn) (post : Value → List Asn → Prop) : Prop :=
  ∀ w F, Star w pre F → Glo l g w → (∀ b, F b → g ≤ b) → CallsD P f args.toArray (.panicking ch) w (fun en u w' => settle u = .returning ∧ ∃ v M, en = .returned v ∧ post v M ∧ St w F M w')
theorem Spec.toI {P : Program} {l : List (Nat × List Value)} {g : Nat} {f : FuncId} {args : List Value} {pre : List Asn} {post : Value → List Asn → Prop} (h : Spec P f args pre post) : SpecI P l g f args pre post := fun w F hs _ _ => h w F hs
theorem SpecI.toSpec {P : Program} {f : FuncId} {args : List Value} {pre : List Asn} {post : Value → List Asn → Prop} (h : SpecI P [] 0 f args pre post) : Spec P f args pre post := fun w F hs => h w F hs (.nil w) (fun _ _ => Nat.zero_le _)
theorem SpecI.conv {P : Program} {l : List (Nat × List Value)} {g : Nat} {f : FuncId} {args : List Value} {pre : List Asn} {post post' : Value → List Asn → Prop} (h : SpecI P l g f args pre post) (hc : ∀ v M, post v M → ∃ M', post' v M' ∧ ∀ w0 F w, St w0 F M w → St w0 F M' w) : SpecI P l g f args pre post' := fun w F hs h1 h2 =>
  (h w F hs h1 h2).mono fun _ _ ⟨v, M, e, hp, hst⟩ => let ⟨M', hp', hm⟩ := hc v M hp; ⟨v, M', e, hp', hm _ _ _ hst⟩

/-- The pieces that a call takes stand apart; what it hands back joins the rest. -/
theorem St.callAt {w0 : World} {F0 : Nat → Prop} {pre rest : List Asn} {w : World} (h : St w0 F0 (pre ++ rest) w) :
    ∃ F1, Star w pre F1 ∧ (∀ b, F1 b → F0 b ∨ w0.heap.size ≤ b) ∧ ∀ post w', St w F1 post w' → St w0 F0 (post ++ rest) w' := by
  obtain ⟨F, h1, h2, h3⟩ := h
  obtain ⟨F1, F2, s1, s2, s3, s4⟩ := h1.tight.split
  refine ⟨F1, s1, fun b hb => h3 b (s4 b (.inl hb)).1, ?_⟩
  rintro post w' ⟨G, g1, g2, g3⟩
  have t2 := s2.tight
  refine ⟨fun b => G b ∨ (F2 b ∧ b < w.heap.size), g1.join (t2.loc fun b hb => g2.blk b hb.2 fun hb1 => s3 b hb1 hb.1) (fun b hb hc => ?_) (fun _ h => h), ⟨g2.os.trans h2.os, g2.tape.trans h2.tape, g2.output.trans h2.output, Nat.le_trans h2.size g2.size, fun k hk hn => ?_⟩, fun b hb => ?_⟩
  · rcases g3 b hb with h | h
    · exact s3 b h hc.1
    · exact absurd hc.2 (by omega)
  · refine (g2.blk k (Nat.lt_of_lt_of_le hk h2.size) fun hk1 => ?_).trans (h2.blk k hk hn)
    rcases h3 k (s4 k (.inl hk1)).1 with h | h
    · exact hn h
    · omega
  · rcases hb with hb | hb
    · rcases g3 b hb with h | h
      · exact h3 b (s4 b (.inl h)).1
      · exact .inr (Nat.le_trans h2.size h)
    · exact h3 b (s4 b (.inr hb.1)).1

section
variable {P : Program} {n : Nat} {ds : List Deferred} {ops : Array Oper} {ev wk : Nat → Bool} {K : Env → (World → Prop) → Prop} {r : List Oper} {o : Oper} {k : Nat} {e : Env} {C : World → Prop} {w0 : World} {F0 : Nat → Prop} {L L' : List Asn} {l : List (Nat × List Value)} {g : Nat}

theorem glo_pre {F1 : Nat → Prop} (hI : Glo l g w0) (hF : ∀ b, F0 b → g ≤ b) (h : ∀ b, F1 b → F0 b ∨ w0.heap.size ≤ b) : ∀ b, F1 b → g ≤ b := fun b hb => (h b hb).elim (hF b) (fun h => Nat.le_trans hI.1 h)

/-- A call that leans on package variables. -/
theorem h_callI (hI : Glo l g w0) (hF : ∀ b, F0 b → g ≤ b) {c : Call} {f : FuncId} {fo : Operand} {vs : List Value} {cap : Array Value} {pre rest : List Asn} {post : Value → List Asn → Prop} (hev : ev k = true) (hwk : wk k = false) (ho : o.op = .call c) (hc : c.callee = .value fo) (hf : e.op fo = some (.func (.func f) #[] cap)) (hvs : e.ops c.args.toList = some vs)
    {dd : Nat} (hdst : o.dst = some dd) (hd : okD n (some dd) = true) (he : Enters P f) (hpu : Pulls L pre rest) (hs : SpecI P l g f (vs ++ cap.toList) pre post)
    (h : ∀ v M, post v M → HX P n ds ops ev wk K r (k + 1) ((dd, v) :: e) (St w0 F0 (M ++ rest))) : HX1 P n ds ops ev wk K o r k e (St w0 F0 L) :=
  hx1_event hev (fun a w ha hC => by
    have hC' : St w0 F0 (pre ++ rest) w := hC.perm hpu.perm
    unfold Oper.wp
    rw [run_call he hc (ha.eval hf) (ha.evals hvs) ho]
    obtain ⟨F1, s1, s2, s3⟩ := hC'.callAt
    have hcall := hs w F1 s1 (hC.glo hI hF) (glo_pre hI hF s2)
    have e1 : (vs ++ cap.toList).toArray = vs.toArray ++ cap := by simp
    rw [e1] at hcall
    refine hcall.mono ?_
    rintro en w' ⟨v, M, rfl, hp, hSt⟩
    exact ⟨St w0 F0 (M ++ rest), _, s3 M w' hSt, (fun h => by rw [hwk] at h; cases h), (by rw [hdst]; exact ha.put hd v), h v M hp⟩)
/-- .. whose answer is not kept. -/
theorem h_callI0 (hI : Glo l g w0) (hF : ∀ b, F0 b → g ≤ b) {c : Call} {f : FuncId} {fo : Operand} {vs : List Value} {cap : Array Value} {pre rest : List Asn} {post : Value → List Asn → Prop} (hev : ev k = true) (hwk : wk k = false) (ho : o.op = .call c) (hc : c.callee = .value fo) (hf : e.op fo = some (.func (.func f) #[] cap)) (hvs : e.ops c.args.toList = some vs)
    (hdst : o.dst = none) (he : Enters P f) (hpu : Pulls L pre rest) (hs : SpecI P l g f (vs ++ cap.toList) pre post)
    (h : ∀ v M, post v M → HX P n ds ops ev wk K r (k + 1) e (St w0 F0 (M ++ rest))) : HX1 P n ds ops ev wk K o r k e (St w0 F0 L) :=
  hx1_event hev (fun a w ha hC => by
    have hC' : St w0 F0 (pre ++ rest) w := hC.perm hpu.perm
    unfold Oper.wp
    rw [run_call he hc (ha.eval hf) (ha.evals hvs) ho]
    obtain ⟨F1, s1, s2, s3⟩ := hC'.callAt
    have hcall := hs w F1 s1 (hC.glo hI hF) (glo_pre hI hF s2)
    have e1 : (vs ++ cap.toList).toArray = vs.toArray ++ cap := by simp
    rw [e1] at hcall
    refine hcall.mono ?_
    rintro en w' ⟨v, M, rfl, hp, hSt⟩
    exact ⟨St w0 F0 (M ++ rest), _, s3 M w' hSt, (fun h => by rw [hwk] at h; cases h), (by rw [hdst]; exact ha), h v M hp⟩)
/-- A load of a package variable. -/
theorem h_gload (hI : Glo l g w0) (hF : ∀ b, F0 b → g ≤ b) {t b : Nat} {x : Operand} {d : TypeDesc} {vs : List Value} {v : Value} (ho : o.op = .load t x) (hx : e.op x = some (.pointer (some ⟨b, 0, none⟩))) (hm : (b, vs) ∈ l) (hv : nth vs 0 = some v) (hu : P.underlying t = some d) (hna : aggD d = false)
    {dd : Nat} (hdst : o.dst = some dd) (hd : okD n (some dd) = true) (h : HX P n ds ops ev wk K r (k + 1) ((dd, v) :: e) (St w0 F0 L)) : HX1 P n ds ops ev wk K o r k e (St w0 F0 L) :=
  hx1_read (by rw [ho]; rfl) (by rw [ho]; rfl) hdst hd (fun a w ha hC => by
    obtain ⟨_, ob, hb, cs, bt, fz, rfl, hc⟩ := (hC.glo hI hF).2 _ hm
    simp [execOp, ho, ha.eval hx, run_load1 hu hna ((blk_cell hb 0).trans (hc 0 v (by rw [← nth_eq]; exact hv)))]) h

/-! ### Interfaces -/
theorem h_makeInterface {t : TypeId} {x : Operand} {v : Value} {d : TypeDesc} (ho : o.op = .makeInterface t x) (hx : e.op x = some v) (hu : P.underlying t = some d) (hni : (match d with | .interface _ => false | _ => true) = true)
    {dd : Nat} (hdst : o.dst = some dd) (hd : okD n (some dd) = true) (h : HX P n ds ops ev wk K r (k + 1) ((dd, .iface t v) :: e) C) : HX1 P n ds ops ev wk K o r k e C :=
  hx1_pure (by rw [ho]; rfl) hdst hd (fun a w ha => by
    have : (Instr.makeInterface t v).run P w = .ok (.iface t v) w := by
      simp only [Instr.makeInterface, Sem.run_bind, run_und hu, Result.andThen]
      cases d <;> first | rfl | cases hni
    simp [execOp, ho, ha.eval hx, this]) h
/-- What an operation yields, whatever the world. -/
theorem h_yield {v : Value} {dd : Nat} (hev : ev k = true) (hrun : ∀ a w, Has n ds a e → (execOp a.eval o).run P w = .ok (.value v) w) (hdst : o.dst = some dd) (hd : okD n (some dd) = true) (h : HX P n ds ops ev wk K r (k + 1) ((dd, v) :: e) C) : HX1 P n ds ops ev wk K o r k e C :=
  hx1_event hev (fun a w ha hC => by
    unfold Oper.wp
    rw [hrun a w ha]
    exact ⟨C, _, hC, fun _ _ h => h, by rw [hdst]; exact ha.put hd _, h⟩)
theorem h_typeAssert {x : Operand} {xT T : TypeId} {v r0 : Value} (hev : ev k = true) (ho : o.op = .typeAssert x xT T true) (hx : e.op x = some v) (hr : ∀ w, (Instr.typeAssert v xT T true).run P w = .ok r0 w)
    {dd : Nat} (hdst : o.dst = some dd) (hd : okD n (some dd) = true) (h : HX P n ds ops ev wk K r (k + 1) ((dd, r0) :: e) C) : HX1 P n ds ops ev wk K o r k e C :=
  h_yield hev (fun a w ha => by simp [execOp, ho, ha.eval hx, hr]) hdst hd h
/-- == at an interface type, the values not both nil. -/
theorem h_eqIf {t t2 : TypeId} {x y : Operand} {u v : Value} {b : Bool} (ho : o.op = .binOp .eql t x y t2) (hx : e.op x = some u) (hy : e.op y = some v) (hn : (match u, v with | .nilIface, .nilIface => false | .agg _, .agg _ => false | _, _ => true) = true) (hr : ∀ w, (binOp .eql t u v).run P w = .ok (.bool b) w)
    {dd : Nat} (hdst : o.dst = some dd) (hd : okD n (some dd) = true) (h : HX P n ds ops ev wk K r (k + 1) ((dd, .bool b) :: e) C) : HX1 P n ds ops ev wk K o r k e C :=
  hx1_pure (by rw [ho]; rfl) hdst hd (fun a w ha => by
    have e1 : (eqGuard .eql t x y u v).run P w = .ok () w := by
      cases u <;> cases v <;> first | rfl | cases hn
    simp [execOp, ho, ha.eval hx, ha.eval hy, e1, hr]) h
theorem run_eql_iface_nil_right {ti : TypeId} {ms : Array (String × TypeId)} (tp : TypeId) (v : Value) (hi : P.underlying ti = some (.interface ms)) (w : World) :
    (binOp .eql ti (.iface tp v) .nilIface).run P w = .ok (.bool false) w := by
  have h : ∀ d : Nat, (Op.equalIn (d + 1) ti (.iface tp v) .nilIface).run P w = .ok false w := fun d => by simp [Op.equalIn, run_underlying hi]
  simp only [binOp]
  simp [Op.equal, Op.maxDepth, h 9999]
theorem run_invoke {c : Call} {a : Act} {recv : Operand} {name : String} {t f : Nat} {v0 rv : Value} {vs : List Value} {w : World} (ho : o.op = .call c) (hc : c.callee = .invoke recv name) (hr : a.eval recv = .iface t v0) (hvs : c.args.toList.map a.eval = vs) (hm : (Go.method (P.types.size + Made.depth) t v0 name).run P w = .ok (f, rv) w) :
    (execOp a.eval o).run P w = (callFunc f (rv :: vs).toArray).run P w := by
  have e1 : c.args.map a.eval = vs.toArray := by
    rw [← hvs]
    exact Array.ext' (by simp)
  simp [execOp, ho, resolve, hc, hr, e1, invoke, callMethod, hm]
theorem run_callv {c : Call} {a : Act} {fo : Operand} {f : FuncId} {vs : List Value} {w : World} (ho : o.op = .call c) (hc : c.callee = .value fo) (hf : a.eval fo = .func (.func f) #[] #[]) (hvs : c.args.toList.map a.eval = vs) :
    (execOp a.eval o).run P w = (callFunc f vs.toArray).run P w := by
  have e1 : c.args.map a.eval = vs.toArray := by
    rw [← hvs]
    exact Array.ext' (by simp)
  simp [execOp, ho, resolve, hc, hf, Deferred.ofValue, e1, invoke]
/-- A method, called through an interface, that yields. -/
theorem h_invokeX {c : Call} {recv : Operand} {name : String} {t f : Nat} {v0 rv v : Value} {vs : List Value} (hev : ev k = true) (ho : o.op = .call c) (hc : c.callee = .invoke recv name) (hr : e.op recv = some (.iface t v0)) (hvs : e.ops c.args.toList = some vs) (hm : ∀ w, (Go.method (P.types.size + Made.depth) t v0 name).run P w = .ok (f, rv) w)
    (hx : ∀ w, C w → (callFunc f (rv :: vs).toArray).run P w = .ok (.value v) w) {dd : Nat} (hdst : o.dst = some dd) (hd : okD n (some dd) = true) (h : HX P n ds ops ev wk K r (k + 1) ((dd, v) :: e) C) : HX1 P n ds ops ev wk K o r k e C :=
  hx1_event hev (fun a w ha hC => by
    unfold Oper.wp
    rw [run_invoke ho hc (ha.eval hr) (ha.evals hvs) (hm w), hx w hC]
    exact ⟨C, _, hC, fun _ _ h => h, by rw [hdst]; exact ha.put hd _, h⟩)
/-- A function of the model's, that yields. -/
theorem h_callX {c : Call} {fo : Operand} {f : FuncId} {v : Value} {vs : List Value} (hev : ev k = true) (ho : o.op = .call c) (hc : c.callee = .value fo) (hf : e.op fo = some (.func (.func f) #[] #[])) (hvs : e.ops c.args.toList = some vs)
    (hx : ∀ w, C w → (callFunc f vs.toArray).run P w = .ok (.value v) w) {dd : Nat} (hdst : o.dst = some dd) (hd : okD n (some dd) = true) (h : HX P n ds ops ev wk K r (k + 1) ((dd, v) :: e) C) : HX1 P n ds ops ev wk K o r k e C :=
  hx1_event hev (fun a w ha hC => by
    unfold Oper.wp
    rw [run_callv ho hc (ha.eval hf) (ha.evals hvs), hx w hC]
    exact ⟨C, _, hC, fun _ _ h => h, by rw [hdst]; exact ha.put hd _, h⟩)
/-- .. that makes a block. -/
theorem h_callXA {c : Call} {fo : Operand} {f : FuncId} {v : Nat → Value} {ob : Obj} {vs : List Value} (hev : ev k = true) (hwk : wk k = false) (ho : o.op = .call c) (hc : c.callee = .value fo) (hf : e.op fo = some (.func (.func f) #[] #[])) (hvs : e.ops c.args.toList = some vs)
    (hx : ∀ w, (callFunc f vs.toArray).run P w = .ok (.value (v w.heap.size)) (w.alloc ob)) {dd : Nat} (hdst : o.dst = some dd) (hd : okD n (some dd) = true) (h : ∀ b, HX P n ds ops ev wk K r (k + 1) ((dd, v b) :: e) (St w0 F0 (Blk b ob :: L))) : HX1 P n ds ops ev wk K o r k e (St w0 F0 L) :=
  hx1_event hev (fun a w ha hC => by
    unfold Oper.wp
    rw [run_callv ho hc (ha.eval hf) (ha.evals hvs), hx w]
    exact ⟨_, _, hC.new _, (fun h => by rw [hwk] at h; cases h), by rw [hdst]; exact ha.put hd _, h _⟩)
/-- .. that writes a cell. -/
theorem h_callXS {c : Call} {fo : Operand} {f : FuncId} {vs : List Value} {b i : Nat} {u r0 : Value} {cs : Array Value} {bt : TypeId} (hev : ev k = true) (hwk : wk k = false) (ho : o.op = .call c) (hc : c.callee = .value fo) (hf : e.op fo = some (.func (.func f) #[] #[])) (hvs : e.ops c.args.toList = some vs) (hp : Pull L (Blk b (.cells cs bt (0, 0))) L')
    (hx : ∀ w, St w0 F0 L w → w.heap[b]? = some (.cells cs bt (0, 0)) → (callFunc f vs.toArray).run P w = .ok (.value r0) (w.setCell ⟨b, i, none⟩ u)) {dd : Nat} (hdst : o.dst = some dd) (hd : okD n (some dd) = true)
    (h : HX P n ds ops ev wk K r (k + 1) ((dd, r0) :: e) (St w0 F0 (Blk b (.cells (cs.setIfInBounds i u) bt (0, 0)) :: L'))) : HX1 P n ds ops ev wk K o r k e (St w0 F0 L) :=
  hx1_event hev (fun a w ha hC => by
    have hC' := hC.perm hp.perm
    unfold Oper.wp
    rw [run_callv ho hc (ha.eval hf) (ha.evals hvs), hx w hC hC'.blk]
    exact ⟨_, _, hC'.put (set_but w b i u) (set_blk hC'.blk i u), (fun h => by rw [hwk] at h; cases h), by rw [hdst]; exact ha.put hd _, h⟩)
/-- A method of the program's own, called through an interface. -/
theorem h_invokeI (hI : Glo l g w0) (hF : ∀ b, F0 b → g ≤ b) {c : Call} {recv : Operand} {name : String} {t f : Nat} {v0 rv : Value} {vs : List Value} {pre rest : List Asn} {post : Value → List Asn → Prop} (hev : ev k = true) (hwk : wk k = false) (ho : o.op = .call c) (hc : c.callee = .invoke recv name) (hr : e.op recv = some (.iface t v0)) (hvs : e.ops c.args.toList = some vs) (hm : ∀ w, (Go.method (P.types.size + Made.depth) t v0 name).run P w = .ok (f, rv) w)
    {dd : Nat} (hdst : o.dst = some dd) (hd : okD n (some dd) = true) (he : Enters P f) (hpu : Pulls L pre rest) (hs : SpecI P l g f (rv :: vs) pre post)
    (h : ∀ v M, post v M → HX P n ds ops ev wk K r (k + 1) ((dd, v) :: e) (St w0 F0 (M ++ rest))) : HX1 P n ds ops ev wk K o r k e (St w0 F0 L) :=
  hx1_event hev (fun a w ha hC => by
    have hC' : St w0 F0 (pre ++ rest) w := hC.perm hpu.perm
    unfold Oper.wp
    rw [run_invoke ho hc (ha.eval hr) (ha.evals hvs) (hm w), he]
    obtain ⟨F1, s1, s2, s3⟩ := hC'.callAt
    refine (hs w F1 s1 (hC.glo hI hF) (glo_pre hI hF s2)).mono ?_
    rintro en w' ⟨v, M, rfl, hp, hSt⟩
    exact ⟨St w0 F0 (M ++ rest), _, s3 M w' hSt, (fun h => by rw [hwk] at h; cases h), (by rw [hdst]; exact ha.put hd v), h v M hp⟩)
end

/-! ### Panics -/
section
variable {P : Program} {n : Nat} {ds : List Deferred} {Q : Exit → Act → World → Prop} {e : Env} {C : World → Prop} {w0 : World} {F0 : Nat → Prop} {L L' : List Asn} {ch : List PanicEntry} {l : List (Nat × List Value)} {g : Nat} {ev wk : Nat → Bool}
theorem hq_panic_then {K : Act → World → Prop} (h : HQ n ds Q (.panic ch) e C) : HQ n ds (Exit.then K Q) (.panic ch) e C := ⟨h.out⟩
theorem hq_panic_block {id : Nat} (h : HQ n ds Q (.panic ch) e C) : HQ n ds (Exit.inBlock id Q) (.panic ch) e C := ⟨h.out⟩
theorem hq_cut_panic {Y : Type} {id : Nat} {en : Y → Env} {M : Y → List Asn} {ψ : Y → Prop} (h : HQ n ds Q (.panic ch) e C) : HQ n ds (QX n ds w0 F0 id en M ψ Q) (.panic ch) e C := ⟨h.out⟩
theorem wpList_tx_then {ops : Array Oper} {K : Act → (World → Prop) → Prop} {l2 : List Oper} (hQ : ∀ a C w, C w → K a C → wpList P ops Q l2 a w) : ∀ (l1 : List Oper) (k : Nat) (a : Act) (C : World → Prop) (w : World), C w →
    TX P ops ev wk K l1 k a C → wpList P ops Q (l1 ++ l2) a w
  | [], _, _, _, _, hw, h => hQ _ _ _ hw h
  | o :: l1, k, a, C, w, hw, h => by
    simp only [TX] at h
    rw [List.cons_append]
    unfold wpList
    split
    · rename_i hwant
      rw [if_pos hwant] at h
      refine .inl ?_
      split at h
      · exact Oper.wp_monoQ (Oper.wp_mono (fun a' w' ⟨C', hC', _, ht⟩ => wpList_tx_then hQ l1 _ a' C' w' hC' ht) (h w hw))
      · obtain ⟨v, hy, ht⟩ := h
        have hin := yldK_toIn hy
        rcases hin with ⟨_, hq⟩ | ⟨hn, _⟩
        · exact Oper.wp_of_quiet (C := C) (K := fun a' => a' = a.put o.dst v) hw (fun a' w' hw' e => by subst e; exact wpList_tx_then hQ l1 _ _ C w' hw' ht) ⟨v, hq, rfl⟩
        · rw [hn] at hwant; cases hwant
    · rename_i hwant
      rw [if_neg hwant] at h
      exact wpList_tx_then hQ l1 _ _ C w hw h
/-- What is to be known where a call panics. -/
def PanicAt (P : Program) (n : Nat) (ds : List Deferred) (Q : Exit → Act → World → Prop) (w0 : World) (F0 : Nat → Prop) (c : Call) (f : FuncId) (fo : Operand) (e' : Env) (C' : World → Prop) : Prop :=
  ∃ vs cap L' pre rest post, C' = St w0 F0 L' ∧ e'.op fo = some (.func (.func f) #[] cap) ∧ e'.ops c.args.toList = some vs ∧ Pulls L' pre rest ∧ SpecP P f (vs ++ cap.toList) pre post ∧ ∀ ch M, post ch M → HQ n ds Q (.panic ch) e' (St w0 F0 (M ++ rest))
theorem PanicAt.mk {c : Call} {f : FuncId} {fo : Operand} {vs : List Value} {cap : Array Value} {pre rest : List Asn} {post : List PanicEntry → List Asn → Prop} (h1 : e.op fo = some (.func (.func f) #[] cap)) (h2 : e.ops c.args.toList = some vs) (h3 : Pulls L pre rest) (h4 : SpecP P f (vs ++ cap.toList) pre post) (h5 : ∀ ch M, post ch M → HQ n ds Q (.panic ch) e (St w0 F0 (M ++ rest))) : PanicAt P n ds Q w0 F0 c f fo e (St w0 F0 L) :=
  ⟨vs, cap, L, pre, rest, post, rfl, h1, h2, h3, h4, h5⟩
theorem PanicAt.wp {c : Call} {f : FuncId} {fo : Operand} {o : Oper} (h : PanicAt P n ds Q w0 F0 c f fo e C) (ho : o.op = .call c) (hc : c.callee = .value fo) (he : Enters P f) {a : Act} {w : World} (ha : Has n ds a e) (hC : C w) (next : Act → World → Prop) : o.wp P a w next Q := by
  obtain ⟨vs, cap, L', pre, rest, post, rfl, hf, hvs, hpu, hs, hq⟩ := h
  have hC' : St w0 F0 (pre ++ rest) w := hC.perm hpu.perm
  unfold Oper.wp
  rw [run_call he hc (ha.eval hf) (ha.evals hvs) ho]
  obtain ⟨F1, s1, s2, s3⟩ := hC'.callAt
  have hcall := hs w F1 s1
  have e1 : (vs ++ cap.toList).toArray = vs.toArray ++ cap := by simp
  rw [e1] at hcall
  refine hcall.mono ?_
  rintro en w' ⟨ch, M, rfl, hp, hSt⟩
  exact (hq ch M hp).out a w' ha (s3 M w' hSt)
/-- A region in the order of the text, one of whose calls panics. -/
theorem hc_callP {id : Nat} (l1 : List Oper) {l2 : List Oper} {o : Oper} {c : Call} {f : FuncId} {fo : Operand} (ho : o.op = .call c) (hg : o.guard = none) (hc : c.callee = .value fo) (he : Enters P f)
    (h : HX P n ds (l1 ++ o :: l2).toArray (fun _ => true) (fun _ => false) (PanicAt P n ds Q w0 F0 c f fo) l1 0 e (St w0 F0 L)) :
    HC P n ds (Code.region id (l1 ++ o :: l2).toArray false) Q e (St w0 F0 L) := ⟨fun a w ha hC => by
  refine wp_region_lit ?_
  refine wpList_tx_then (ev := fun _ => true) (wk := fun _ => false) (K := fun a' C' => ∃ e', Has n ds a' e' ∧ PanicAt P n ds Q w0 F0 c f fo e' C') ?_ l1 0 a (St w0 F0 L) w hC (h.out a ha)
  rintro a' C' w' hC' ⟨e', h1, h2⟩
  unfold wpList
  rw [if_pos (by simp [Region.wanted, hg])]
  exact .inl (h2.wp ho hc he h1 hC' _)⟩
/-- A region in the order of the text, that ends with a panic. -/
theorem hc_panic {id : Nat} (l1 : List Oper) {l2 : List Oper} {o : Oper} {x : Operand} (ho : o.op = .panic x) (hg : o.guard = none)
    (h : HX P n ds (l1 ++ o :: l2).toArray (fun _ => true) (fun _ => false) (fun e' C' => ∃ t v, e'.op x = some (.iface t v) ∧ HQ n ds Q (.panic [{ v := .iface t v, recovered := false }]) e' C') l1 0 e C) :
    HC P n ds (Code.region id (l1 ++ o :: l2).toArray false) Q e C := ⟨fun a w ha hC => by
  refine wp_region_lit ?_
  refine wpList_tx_then (ev := fun _ => true) (wk := fun _ => false) (K := fun a' C' => ∃ e', Has n ds a' e' ∧ ∃ t v, e'.op x = some (.iface t v) ∧ HQ n ds Q (.panic [{ v := .iface t v, recovered := false }]) e' C') ?_ l1 0 a C w hC (h.out a ha)
  rintro a' C' w' hC' ⟨e', h1, t, v, h2, h3⟩
  unfold wpList
  rw [if_pos (by simp [Region.wanted, hg])]
  refine .inl ?_
  unfold Oper.wp
  have : (execOp a'.eval o).run P w' = .halt (.panic (.iface t v)) w' := by
    simp [execOp, ho, h1.eval h2, Instr.panic]
  rw [this]
  exact h3.out a' w' h1 hC'⟩

/-! A drawn region that only reads, but for its last call. -/
def listedTo (n i : Nat) : Array Bool := ((List.range n).map fun j => decide (j < i)).toArray
def chkQ (ops : Array Oper) (m : Nat) : Bool := Region.noSelect ops && Nat.beq ops.size (m + 1) && ((List.range m).all fun i => match ops[i]? with
    | some o => Region.free .any ops (listedTo (m + 1) i) i && (Region.ready .any ops (listedTo (m + 1) i)).contains i && (pureB o.op || !callB o.op)
    | none => false) && (Region.ready .any ops (listedTo (m + 1) m) == [m])
theorem listedTo_set {n i : Nat} (h : i < n) : (listedTo n i).setIfInBounds i true = listedTo n (i + 1) := by
  apply Array.ext_getElem?
  intro j
  rw [Array.getElem?_setIfInBounds]
  simp only [listedTo, List.getElem?_toArray, List.getElem?_map, List.size_toArray, List.length_map, List.length_range]
  by_cases hij : i = j
  · subst hij
    rw [if_pos rfl, if_pos h, List.getElem?_range h]
    simp
  · rw [if_neg hij]
    by_cases hj : j < n
    · rw [List.getElem?_range hj]
      simp only [Option.map_some, Option.some.injEq, decide_eq_decide]
      omega
    · rw [List.getElem?_eq_none (by simp; omega)]
      rfl
theorem wpAnyH_quiet {ops : Array Oper} {m : Nat} {o : Oper} (hB : chkQ ops m = true) (hom : ops[m]? = some o) (hg : o.guard = none) {K : Act → (World → Prop) → Prop}
    (hQ : ∀ c a w d v, Q (.panic c) (Act.put a d v) w → Q (.panic c) a w) (hK : ∀ a w, C w → K a C → o.wp P a w (fun _ _ => False) Q) :
    ∀ (l' : List Oper) (k : Nat) (a : Act) (w : World), k + l'.length = m → (∀ j, j < l'.length → l'[j]? = ops[k + j]?) → C w → TX P ops (fun _ => false) (fun _ => false) K l' k a C → wpAnyH P .any ops Q C (l'.length + 1) (listedTo (m + 1) k) a w := by
  have hB' := hB
  simp only [chkQ, Bool.and_eq_true, List.all_eq_true, List.mem_range, beq_iff_eq] at hB'
  obtain ⟨⟨⟨hs, hsz⟩, hall⟩, hlast⟩ := hB'
  intro l'
  induction l' with
  | nil =>
    intro k a w hk _ hC h
    simp only [List.length_nil, Nat.add_zero] at hk
    subst hk
    refine wpAnyH_all hlast (by simp) (fun i hi => ?_)
    obtain rfl : i = k := by simpa using hi
    unfold wpOp
    simp only [hom]
    rw [if_pos (by simp [Region.wanted, hg])]
    refine .inl (Oper.wp_mono ?_ (hK a w hC h))
    intro a' w' hf
    exact hf.elim
  | cons oi l' ih =>
    intro k a w hk hl hC h
    simp only [List.length_cons] at hk ⊢
    have h0 : ops[k]? = some oi := by have := hl 0 (by simp); simpa using this.symm
    have hkm := hall k (by omega)
    rw [h0] at hkm
    simp only [Bool.and_eq_true, Bool.or_eq_true, Bool.not_eq_true'] at hkm
    obtain ⟨⟨hf, hr⟩, hcb⟩ := hkm
    have next : ∀ (v : Value) (a : Act), TX P ops (fun _ => false) (fun _ => false) K l' (k + 1) (a.put oi.dst v) C → wpAnyH P .any ops Q C (l'.length + 1) ((listedTo (m + 1) k).setIfInBounds k true) (a.put oi.dst v) w := fun v a ht => by
      rw [listedTo_set (by omega)]
      refine ih (k + 1) _ w (by omega) (fun j hj => ?_) hC ht
      have := hl (j + 1) (by simp; omega)
      simpa [Nat.add_assoc, Nat.add_comm 1 j] using this
    simp only [TX] at h
    by_cases hw : Region.wanted oi (yielded ops a.tmps) = true
    · rw [if_pos hw] at h
      simp only [Bool.false_eq_true, if_false] at h
      obtain ⟨v, hy, ht⟩ := h
      have hy' : YieldsIf P ops C oi v a := by
        unfold YldK at hy
        split at hy
        · exact yldIf_sub (fun _ _ => trivial) hy
        · rename_i hnp
          rw [if_neg (by simp [hcb.resolve_left hnp])] at hy
          exact hy
      exact wpAnyH_take h0 hs hf hr (fun c a w h => hQ c a w _ _ h) hy' hC (next v a ht)
    · rw [if_neg hw] at h
      exact wpAnyH_take (v := undef) h0 hs hf hr (fun c a w h => hQ c a w _ _ h) (.inr ⟨by simpa using hw, rfl⟩) hC (next undef a h)
theorem hc_drawP {id : Nat} (l1 : List Oper) {o : Oper} {c : Call} {f : FuncId} {fo : Operand} (ho : o.op = .call c) (hg : o.guard = none) (hc : c.callee = .value fo) (he : Enters P f) (hm : P.follows .mixedOrders = true) (hB : chkQ (l1 ++ [o]).toArray l1.length = true)
    (hQ : ∀ c a w d v, Q (.panic c) (Act.put a d v) w → Q (.panic c) a w)
    (h : HX P n ds (l1 ++ [o]).toArray (fun _ => false) (fun _ => false) (fun e' C' => C' = St w0 F0 L → PanicAt P n ds Q w0 F0 c f fo e' C') l1 0 e (St w0 F0 L)) :
    HC P n ds (Code.region id (l1 ++ [o]).toArray true) Q e (St w0 F0 L) := ⟨fun a w ha hC => by
  refine wp_region_held (S := St w0 F0 L) hm ?_
  have e0 : (l1 ++ [o]).toArray.size = l1.length + 1 := by simp
  have e1 : Array.replicate (l1 ++ [o]).toArray.size false = listedTo (l1.length + 1) 0 := by
    rw [e0]
    apply Array.ext_getElem?
    intro j
    simp only [listedTo, List.getElem?_toArray, List.getElem?_map, Array.getElem?_replicate]
    by_cases hj : j < l1.length + 1
    · rw [if_pos hj, List.getElem?_range hj]; simp
    · rw [if_neg hj, List.getElem?_eq_none (by simp; omega)]; rfl
  rw [e1, e0]
  refine wpAnyH_quiet (C := St w0 F0 L) (K := fun a' C' => ∃ e', Has n ds a' e' ∧ (C' = St w0 F0 L → PanicAt P n ds Q w0 F0 c f fo e' C')) hB (by simp) hg hQ ?_ l1 0 a _ (by simp) (fun j hj => ?_) (hC.same (.drew w _ _)) (h.out a ha)
  · rintro a' w' hC' ⟨e', h1, h2⟩
    exact (h2 rfl).wp ho hc he h1 hC' _
  · simp only [Nat.zero_add, List.getElem?_toArray]
    rw [List.getElem?_append_left hj]⟩

/-! Functions that panic. -/
def bodyP (w : World) (F : Nat → Prop) (post : List PanicEntry → List Asn → Prop) : Ending → World → Prop := fun en w' => ∃ ch M, en = .panicked ch ∧ post ch M ∧ St w F M w'
theorem specP_of {f : FuncId} {fn : Func} {c : Code} {args : List Value} {pre : List Asn} {post : List PanicEntry → List Asn → Prop} (hf : P.funcs[f]? = some fn) (hb : fn.body = some c) (hn : fn.ntmps = n) (hlen : args.length ≤ n)
    (h : ∀ w F, HC P n [] c (bodyPost P fn (bodyP w F post)) (envOf 0 args) (St w F pre)) : SpecP P f args pre post := fun w F hs => by
  refine calls_of_wp hf hb ((h w F).out _ _ ⟨?_, rfl, fun k v hk => ?_⟩ (.start hs))
  · simp [hn]; omega
  · obtain ⟨_, h2⟩ := envOf_get _ _ _ _ hk
    have hlt : k - 0 < args.length := by
      rcases Nat.lt_or_ge (k - 0) args.length with h | h
      · exact h
      · simp only [Nat.sub_zero] at h h2; rw [List.getElem?_eq_none h] at h2; cases h2
    have hlt' : k < args.length := by omega
    rw [Nat.sub_zero] at h2
    rw [Array.getElem?_append_left (by simpa using hlt')]
    simpa using h2
theorem hq_pan {fn : Func} {post : List PanicEntry → List Asn → Prop} {M : List Asn} (hp : post ch M) (hst : ∀ w, St w0 F0 L w → St w0 F0 M w) : HQ n [] (bodyPost P fn (bodyP w0 F0 post)) (.panic ch) e (St w0 F0 L) :=
  ⟨fun _ w ha hC => ⟨ha.defers, ch, M, rfl, hp, hst w hC⟩⟩
theorem panQ {fn : Func} {R : Ending → World → Prop} : ∀ (c : List PanicEntry) (a : Act) (w : World) (d : Option Tmp) (v : Value), bodyPost P fn R (.panic c) (Act.put a d v) w → bodyPost P fn R (.panic c) a w := fun c a w d v h => by
  obtain ⟨h1, h2⟩ := h
  refine ⟨?_, h2⟩
  cases d <;> exact h1
theorem panQ_then {K : Act → World → Prop} (h : ∀ c a w d v, Q (.panic c) (Act.put a d v) w → Q (.panic c) a w) : ∀ (c : List PanicEntry) (a : Act) (w : World) (d : Option Tmp) (v : Value), Exit.then K Q (.panic c) (Act.put a d v) w → Exit.then K Q (.panic c) a w := h

/-! Functions that lean on package variables; their returns, with a deferred call, or panicking. -/
theorem start_has {fn : Func} {args : List Value} (hn : fn.ntmps = n) (hlen : args.length ≤ n) : Has n [] { tmps := args.toArray ++ Array.replicate (fn.ntmps - args.toArray.size) undef, defers := [] } (envOf 0 args) := by
  refine ⟨by simp [hn]; omega, rfl, fun k v hk => ?_⟩
  obtain ⟨_, h2⟩ := envOf_get _ _ _ _ hk
  have hlt : k - 0 < args.length := by
    rcases Nat.lt_or_ge (k - 0) args.length with h | h
    · exact h
    · simp only [Nat.sub_zero] at h h2; rw [List.getElem?_eq_none h] at h2; cases h2
  have hlt' : k < args.length := by omega
  rw [Nat.sub_zero] at h2
  show (args.toArray ++ _)[k]? = _
  rw [Array.getElem?_append_left (by simpa using hlt')]
  simpa using h2
theorem specI_of {f : FuncId} {fn : Func} {c : Code} {args : List Value} {pre : List Asn} {post : Value → List Asn → Prop} (hf : P.funcs[f]? = some fn) (hb : fn.body = some c) (hn : fn.ntmps = n) (hlen : args.length ≤ n)
    (h : ∀ w F, Glo l g w → (∀ b, F b → g ≤ b) → HC P n [] c (bodyPost P fn (bodyR w F post)) (envOf 0 args) (St w F pre)) : SpecI P l g f args pre post := fun w F hs hI hF =>
  calls_of_wp hf hb ((h w F hI hF).out _ _ (start_has hn hlen) (.start hs))
theorem specI_ofD {f : FuncId} {fn : Func} {c : Code} {args : List Value} {pre : List Asn} {post : Value → List Asn → Prop} (hf : P.funcs[f]? = some fn) (hb : fn.body = some c) (hn : fn.ntmps = n) (hlen : args.length ≤ n)
    (h : ∀ w F, Glo l g w → (∀ b, F b → g ≤ b) → HC P n [] c (bodyPostD P fn (bodyR w F post)) (envOf 0 args) (St w F pre)) : SpecI P l g f args pre post := fun w F hs hI hF =>
  calls_of_wp_defers hf hb ((h w F hI hF).out _ _ (start_has hn hlen) (.start hs))
/-- The function panics; the deferred call recovers. -/
theorem hq_panD1 (hI : Glo l g w0) (hF : ∀ b, F0 b → g ≤ b) {fn : Func} {f : FuncId} {vs : List Value} {cap : Array Value} {pre rest : List Asn} {postf post : Value → List Asn → Prop} {x1 : ResultVar} (hr : fn.results = #[x1]) (he : Enters P f) (hpu : Pulls L pre rest) (hs : SpecDP P l g f (vs ++ cap.toList) ch pre postf)
    (h : ∀ v M, postf v M → ∃ v1 M', RVal P e (M ++ rest) x1 v1 ∧ post v1 M' ∧ ∀ w, St w0 F0 (M ++ rest) w → St w0 F0 M' w) :
    HQ n [defOf f cap vs] (bodyPostD P fn (bodyR w0 F0 post)) (.panic ch) e (St w0 F0 L) := ⟨fun a w ha hC => by
  have hC' : St w0 F0 (pre ++ rest) w := hC.perm hpu.perm
  show Leaves P fn a.tmps (bodyR w0 F0 post) a.defers (.panicking ch) w
  rw [ha.defers]
  have hi : (invoke (.fn (.func f) cap) vs.toArray).run P w = .ok (.enter f (vs.toArray ++ cap)) w := by
    simp only [invoke]
    exact he _ _
  refine leaves_cons (by simp) hi ?_
  obtain ⟨F1, s1, s2, s3⟩ := hC'.callAt
  have hcall := hs w F1 s1 (hC.glo hI hF) (glo_pre hI hF s2)
  have e1 : (vs ++ cap.toList).toArray = vs.toArray ++ cap := by simp
  rw [e1] at hcall
  refine hcall.mono ?_
  rintro en u w' ⟨hu, v, M, rfl, hp, hSt⟩
  have hst := s3 M w' hSt
  obtain ⟨v1, M', r1, r2, r3⟩ := h v M hp
  show Leaves P fn a.tmps (bodyR w0 F0 post) [] (settle u) w'
  rw [hu]
  exact ⟨v1, results1 hr r1 ha hst, v1, M', rfl, r2, r3 w' hst⟩⟩
/-- A deferred function that begins with recover(), where there is something to be recovered. -/
theorem specDP_recover {f : FuncId} {fn : Func} {id : Nat} {o : Oper} {rest : Code} {args : List Value} {V : Value} {pre : List Asn} {post : Value → List Asn → Prop} {t : Nat} (hf : P.funcs[f]? = some fn) (hb : fn.body = some (Code.seq (Code.region id #[o] false) rest)) (hn : fn.ntmps = n) (hlen : args.length ≤ n)
    (ho : o.op = .call { callee := .builtin .recover, args := #[], argTypes := #[] }) (hg : o.guard = none) (hdst : o.dst = some t) (ht : okD n (some t) = true)
    (h : ∀ w F, Glo l g w → (∀ b, F b → g ≤ b) → HC P n [] rest (bodyPost P fn (bodyR w F post)) ((t, V) :: envOf 0 args) (St w F pre)) : SpecDP P l g f args [{ v := V, recovered := false }] pre post := fun w F hs hI hF => by
  refine callsD_of_wpS hf hb (fun c0 cs hu => ?_)
  apply wpS_seq
  apply wpS_region
  obtain ⟨a0, ha0⟩ : ∃ a0 : Act, a0 = { tmps := args.toArray ++ Array.replicate (fn.ntmps - args.toArray.size) undef, defers := [] } := ⟨_, rfl⟩
  have hhas : Has n [] a0 (envOf 0 args) := by
    subst ha0
    exact start_has hn hlen
  rw [← ha0]
  have hrun : (execOp a0.eval o).run P w = .ok .recover w := by
    simp [execOp, ho, resolve, invoke, builtin]
  have hrec : recoverD (c0 :: cs) = some (V, { c0 with mode := .panicking [{ v := V, recovered := true }] } :: cs) := by simp [recoverD, hu]
  have hw : Region.wanted o (yielded #[o] a0.tmps) = true := by simp [Region.wanted, hg]
  show wpOpsS P #[o] _ [0] a0 (c0 :: cs) w
  simp only [wpOpsS]
  have h0 : (#[o] : Array Oper)[0]? = some o := rfl
  simp only [h0, hw, if_true, hrun, hrec]
  have ha' : Has n [] (a0.put o.dst V) ((t, V) :: envOf 0 args) := by rw [hdst]; exact hhas.put ht _
  refine wpS_of_wp (wp_mono ((h w F hI hF).out _ w ha' (.start hs)) ?_)
  intro ex a' w' hq
  cases ex with
  | normal =>
    obtain ⟨h1, v, h2, h3⟩ := hq
    exact ⟨h1, .panicking [{ v := V, recovered := true }], rfl, v, h2, rfl, h3⟩
  | ret =>
    obtain ⟨h1, v, h2, h3⟩ := hq
    exact ⟨h1, .panicking [{ v := V, recovered := true }], rfl, v, h2, rfl, h3⟩
  | panic ch =>
    obtain ⟨_, v, M, h1, _⟩ := hq
    cases h1
  | outgrown =>
    obtain ⟨v, M, h1, _⟩ := hq
    cases h1
  | exit id => exact hq.elim
  | goto l => exact hq.elim
end
end Go.Proofs.Ytbelfaoolnijiaa
