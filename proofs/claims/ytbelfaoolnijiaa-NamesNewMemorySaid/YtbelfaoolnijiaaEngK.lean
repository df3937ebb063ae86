import Derived.Test.YtbelfaoolnijiaaEngJ
namespace Go.Proofs.Ytbelfaoolnijiaa
open Go

/-! ### Calls that lean on a world before -/
/-- Called with args on the pieces pre, in a world that comes of w1, whose blocks are left alone, f returns. -/
def SpecB (P : Program) (w1 : World) (f : FuncId) (args : List Value) (pre : List Asn) (post : Value → List Asn → Prop) : Prop :=
  ∀ w F, Star w pre F → But w1 w nowhere → (∀ b, F b → w1.heap.size ≤ b) → Calls P f args.toArray w (fun en w' => ∃ v M, en = .returned v ∧ post v M ∧ St w F M w')
theorem Rd.butF {X : Type} {E : Elem X} {w w' : World} {F : Nat → Prop} {v : Value} {xs : List X} (h : Rd E w v xs) (hb : But w w' F) (hF : ∀ b, F b → w.heap.size ≤ b) : Rd E w' v xs := by
  obtain ⟨a, cap, h1, h2, h3, h4⟩ := h
  refine ⟨a, cap, h1, h2, h3, h4.imp id ?_⟩
  rintro ⟨g, off, e, hc⟩
  refine ⟨g, off, e, fun i x hx j u hu => ?_⟩
  have hcell := hc i x hx j u hu
  have hlt : g < w.heap.size := cell_lt hcell
  exact hb.cell (S := F) (fun hf => absurd (hF _ hf) (by show ¬ w.heap.size ≤ g; omega)) hcell
theorem But.thenF {w1 w w' : World} {F : Nat → Prop} (h : But w1 w nowhere) (hb : But w w' F) (hF : ∀ b, F b → w1.heap.size ≤ b) : But w1 w' nowhere :=
  ⟨hb.os.trans h.os, hb.tape.trans h.tape, hb.output.trans h.output, Nat.le_trans h.size hb.size, fun k hk _ => (hb.blk k (Nat.lt_of_lt_of_le hk h.size) (fun hf => absurd (hF _ hf) (by omega))).trans (h.blk k hk id)⟩
theorem St.butB {w1 w w' : World} {F : Nat → Prop} {L : List Asn} (h : St w F L w') (hB : But w1 w nowhere) (hF : ∀ b, F b → w1.heap.size ≤ b) : But w1 w' nowhere := hB.thenF h.but hF
section
variable {P : Program} {n : Nat} {ds : List Deferred} {ops : Array Oper} {ev wk : Nat → Bool} {K : Env → (World → Prop) → Prop} {r : List Oper} {o : Oper} {k : Nat} {e : Env} {C D : World → Prop} {w1 w0 : World} {F0 : Nat → Prop} {L L' : List Asn} {l : List (Nat × List Value)} {g : Nat}
theorem h_callB (hB : But w1 w0 nowhere) (hF : ∀ b, F0 b → w1.heap.size ≤ b) {c : Call} {f : FuncId} {fo : Operand} {vs : List Value} {cap : Array Value} {pre rest : List Asn} {post : Value → List Asn → Prop} (hev : ev k = true) (hwk : wk k = false) (ho : o.op = .call c) (hc : c.callee = .value fo) (hf : e.op fo = some (.func (.func f) #[] cap)) (hvs : e.ops c.args.toList = some vs)
    {dd : Nat} (hdst : o.dst = some dd) (hd : okD n (some dd) = true) (he : Enters P f) (hpu : Pulls L pre rest) (hs : SpecB P w1 f (vs ++ cap.toList) pre post)
    (h : ∀ v M, post v M → HX P n ds ops ev wk K r (k + 1) ((dd, v) :: e) (St w0 F0 (M ++ rest))) : HX1 P n ds ops ev wk K o r k e (St w0 F0 L) :=
  hx1_event hev (fun a w ha hC => by
    have hC' : St w0 F0 (pre ++ rest) w := hC.perm hpu.perm
    unfold Oper.wp
    rw [run_call he hc (ha.eval hf) (ha.evals hvs) ho]
    obtain ⟨F1, s1, s2, s3⟩ := hC'.callAt
    have hcall := hs w F1 s1 (hC.butB hB hF) (fun b hb => (s2 b hb).elim (hF b) (fun h => Nat.le_trans hB.size h))
    have e1 : (vs ++ cap.toList).toArray = vs.toArray ++ cap := by simp
    rw [e1] at hcall
    refine hcall.mono ?_
    rintro en w' ⟨v, M, rfl, hp, hSt⟩
    exact ⟨St w0 F0 (M ++ rest), _, s3 M w' hSt, (fun h => by rw [hwk] at h; cases h), (by rw [hdst]; exact ha.put hd v), h v M hp⟩)
theorem SpecI.toB {f : FuncId} {args : List Value} {pre : List Asn} {post : Value → List Asn → Prop} (h : SpecI P l g f args pre post) (hI : Glo l g w1) : SpecB P w1 f args pre post := fun w F hs hB hF =>
  h w F hs (hI.but hB (fun _ h => h.elim)) (fun b hb => Nat.le_trans hI.1 (hF b hb))
theorem Spec.toB {f : FuncId} {args : List Value} {pre : List Asn} {post : Value → List Asn → Prop} (h : Spec P f args pre post) : SpecB P w1 f args pre post := fun w F hs _ _ => h w F hs
theorem specB_of {f : FuncId} {fn : Func} {c : Code} {args : List Value} {pre : List Asn} {post : Value → List Asn → Prop} (hf : P.funcs[f]? = some fn) (hb : fn.body = some c) (hn : fn.ntmps = n) (hlen : args.length ≤ n)
    (h : ∀ w F, But w1 w nowhere → (∀ b, F b → w1.heap.size ≤ b) → HC P n [] c (bodyPost P fn (bodyR w F post)) (envOf 0 args) (St w F pre)) : SpecB P w1 f args pre post := fun w F hs hB hF =>
  calls_of_wp hf hb ((h w F hB hF).out _ _ (start_has hn hlen) (.start hs))
/-- A call of which the answer is known in the world before. -/
theorem SpecB.calls {f : FuncId} {args : List Value} {v : Value} (h : SpecB P w1 f args [] (fun u M => u = v ∧ M = [])) : Calls P f args.toArray w1 (fun en w' => en = .returned v ∧ But w1 w' nowhere) :=
  (h w1 nowhere trivial (.refl _ _) (fun _ h => h.elim)).mono fun en w' ⟨u, M, h1, ⟨h2, _⟩, h3⟩ => ⟨by rw [h1, h2], h3.but⟩

/-! ### Drawn regions in which reads may come late, whatever is an event -/
variable {Q : Exit → Act → World → Prop}
theorem hc_drawE {id : Nat} {l : List Oper} (ev : Nat → Bool) (o1 o2 : List Nat) (hm : P.follows .mixedOrders = true) (hB : (Region.noSelect l.toArray && ((o1 ++ o2).all (fun i => decide (i < l.length)) && chkD l.toArray ev (o1 ++ o2) (Array.replicate l.length false))) = true) (hn : (o1 ++ o2).length = l.length) (hCD : ∀ x, St w0 F0 L x → D x) (he : (o1.all fun i => !ev i) = true)
    (h : HX P n ds l.toArray (fun _ => false) (fun _ => false) (fun e' _ => HD P n ds l.toArray ev D (fun e' C' => HQ n ds Q .normal e' C') (o2.map fun i => (i, l.getD i default)) e' (St w0 F0 L)) (o1.map fun i => l.getD i default) 0 e D) : HC P n ds (Code.region id l.toArray true) Q e (St w0 F0 L) := ⟨fun a w ha hC => by
  refine wp_region_txD (ev := ev) (C := St w0 F0 L) (D := D) (o1 ++ o2) hm hB hn (hC.same (.drew w _ _)) hCD ?_
  have hh : HD P n ds l.toArray ev D (fun e' C' => HQ n ds Q .normal e' C') ((o1 ++ o2).map fun i => (i, l.getD i default)) e (St w0 F0 L) := by
    rw [List.map_append]
    refine hd_reads _ (by rw [List.all_map]; exact he) ?_
    rw [List.map_map]
    exact h
  exact txd_mono (fun a' C' ⟨e', h1, h2⟩ w' hw' => h2.out a' w' h1 hw') _ _ _ (hh.out a ha)⟩
theorem hd_callB {r : List (Nat × Oper)} (hB : But w1 w0 nowhere) (hF : ∀ b, F0 b → w1.heap.size ≤ b) {i : Nat} {o : Oper} {c : Call} {f : FuncId} {fo : Operand} {vs : List Value} {cap : Array Value} {pre rest : List Asn} {post : Value → List Asn → Prop} {K : Env → (World → Prop) → Prop} (hg : o.guard = none) (hev : ev i = true) (ho : o.op = .call c) (hc : c.callee = .value fo) (hf : e.op fo = some (.func (.func f) #[] cap)) (hvs : e.ops c.args.toList = some vs)
    {dd : Nat} (hdst : o.dst = some dd) (hd : okD n (some dd) = true) (he : Enters P f) (hpu : Pulls L pre rest) (hs : SpecB P w1 f (vs ++ cap.toList) pre post)
    (hD : ∀ v M, post v M → ∀ x, St w0 F0 (M ++ rest) x → D x)
    (h : ∀ v M, post v M → HD P n ds ops ev D K r ((dd, v) :: e) (St w0 F0 (M ++ rest))) : HD P n ds ops ev D K ((i, o) :: r) e (St w0 F0 L) := ⟨fun a ha => by
  simp only [TXD]
  rw [if_pos (by simp [Region.wanted, hg]), if_pos hev]
  intro w hC
  have hC' : St w0 F0 (pre ++ rest) w := hC.perm hpu.perm
  unfold Oper.wp
  rw [run_call he hc (ha.eval hf) (ha.evals hvs) ho]
  obtain ⟨F1, s1, s2, s3⟩ := hC'.callAt
  have hcall := hs w F1 s1 (hC.butB hB hF) (fun b hb => (s2 b hb).elim (hF b) (fun h => Nat.le_trans hB.size h))
  have e1 : (vs ++ cap.toList).toArray = vs.toArray ++ cap := by simp
  rw [e1] at hcall
  refine hcall.mono ?_
  rintro en w' ⟨v, M, rfl, hp, hSt⟩
  exact ⟨St w0 F0 (M ++ rest), s3 M w' hSt, hD v M hp, (h v M hp).out _ (by rw [hdst]; exact ha.put hd v)⟩⟩
/-- len, taken as an event. -/
theorem hd_len {r : List (Nat × Oper)} {i : Nat} {o : Oper} {x : Operand} {t : TypeId} {ats : Array TypeId} {el : TypeId} {a0 : Option Addr} {len cap : Nat} {K : Env → (World → Prop) → Prop} (hg : o.guard = none) (hev : ev i = true) (ho : o.op = .call { callee := .builtin .len, args := #[x], argTypes := ats }) (hat : nth ats.toList 0 = some t) (hu : P.underlying t = some (.slice el)) (hx : e.op x = some (.slice a0 len cap))
    {dd : Nat} (hdst : o.dst = some dd) (hd : okD n (some dd) = true) (hCD : ∀ x, C x → D x)
    (h : HD P n ds ops ev D K r ((dd, .int .i64 (len : Int)) :: e) C) : HD P n ds ops ev D K ((i, o) :: r) e C := ⟨fun a ha => by
  simp only [TXD]
  rw [if_pos (by simp [Region.wanted, hg]), if_pos hev]
  intro w hC
  unfold Oper.wp
  have : (execOp a.eval o).run P w = .ok (.value (.int .i64 (len : Int))) w := by
    simp [execOp, ho, resolve, invoke, builtin, Builtin.len_, ha.eval hx, nth_at hat, run_und hu, goInt]
  rw [this]
  exact ⟨C, hC, hCD, h.out _ (by rw [hdst]; exact ha.put hd _)⟩⟩
/-- A call that only reads, as an event. -/
theorem hd_callRd {r : List (Nat × Oper)} {i : Nat} {o : Oper} {c : Call} {f : FuncId} {fo : Operand} {vs : List Value} {cap : Array Value} {v : Value} {K : Env → (World → Prop) → Prop} (hg : o.guard = none) (hev : ev i = true) (ho : o.op = .call c) (hc : c.callee = .value fo) (hf : e.op fo = some (.func (.func f) #[] cap)) (hvs : e.ops c.args.toList = some vs)
    {dd : Nat} (hdst : o.dst = some dd) (hd : okD n (some dd) = true) (he : Enters P f) (hs : ∀ w, St w0 F0 L w → Calls P f (vs ++ cap.toList).toArray w (fun en w' => en = .returned v ∧ But w w' nowhere)) (hCD : ∀ x, St w0 F0 L x → D x)
    (h : HD P n ds ops ev D K r ((dd, v) :: e) (St w0 F0 L)) : HD P n ds ops ev D K ((i, o) :: r) e (St w0 F0 L) := ⟨fun a ha => by
  simp only [TXD]
  rw [if_pos (by simp [Region.wanted, hg]), if_pos hev]
  intro w hC
  unfold Oper.wp
  rw [run_call he hc (ha.eval hf) (ha.evals hvs) ho]
  have hcall := hs w hC
  have e1 : (vs ++ cap.toList).toArray = vs.toArray ++ cap := by simp
  rw [e1] at hcall
  refine hcall.mono ?_
  rintro en w' ⟨rfl, hb⟩
  exact ⟨_, hC.same hb, hCD, h.out _ (by rw [hdst]; exact ha.put hd v)⟩⟩
end
end Go.Proofs.Ytbelfaoolnijiaa
