import Derived.Test.YtbelfaoolnijiaaEngA
import Derived.Laws.StructEq
import Derived.ChangeKeysEq
import Derived.Below
import Derived.KernelRfl
import Derived.SizedLaws
import Derived.WalkKit
import Derived.ProofKit
import Derived.OpenShut
import Derived.Deep.SlicePairs
namespace Go.Proofs.Ytbelfaoolnijiaa
open Go

/-! ### Calls that lean on what the world holds besides the pieces -/
theorem St.wide {w w' : World} {M : List Asn} (F : Nat → Prop) (h : St w nowhere M w') : St w F M w' :=
  let ⟨G, g1, g2, g3⟩ := h
  ⟨G, g1, ⟨g2.os, g2.tape, g2.output, g2.size, fun k hk _ => g2.blk k hk id⟩, fun b hb => .inr ((g3 b hb).resolve_left id)⟩
section
variable {P : Program} {n : Nat} {ds : List Deferred} {ops : Array Oper} {ev wk : Nat → Bool} {K : Env → (World → Prop) → Prop} {r : List Oper} {o : Oper} {k : Nat} {e : Env} {w0 : World} {F0 : Nat → Prop} {L : List Asn}
theorem h_callW {c : Call} {f : FuncId} {fo : Operand} {vs : List Value} {cap : Array Value} {post : Value → List Asn → Prop} (hev : ev k = true) (hwk : wk k = false) (ho : o.op = .call c) (hc : c.callee = .value fo) (hf : e.op fo = some (.func (.func f) #[] cap)) (hvs : e.ops c.args.toList = some vs)
    {dd : Nat} (hdst : o.dst = some dd) (hd : okD n (some dd) = true) (he : Enters P f)
    (hs : ∀ w, St w0 F0 L w → Calls P f (vs ++ cap.toList).toArray w (fun en w' => ∃ v M, en = .returned v ∧ post v M ∧ St w nowhere M w'))
    (h : ∀ v M, post v M → HX P n ds ops ev wk K r (k + 1) ((dd, v) :: e) (St w0 F0 (M ++ L))) : HX1 P n ds ops ev wk K o r k e (St w0 F0 L) :=
  hx1_event hev (fun a w ha hC => by
    unfold Oper.wp
    rw [run_call he hc (ha.eval hf) (ha.evals hvs) ho]
    have hcall := hs w hC
    have e1 : (vs ++ cap.toList).toArray = vs.toArray ++ cap := by simp
    rw [e1] at hcall
    refine hcall.mono ?_
    rintro en w' ⟨v, M, rfl, hp, hSt⟩
    refine ⟨St w0 F0 (M ++ L), _, ?_, (fun h => by rw [hwk] at h; cases h), (by rw [hdst]; exact ha.put hd v), h v M hp⟩
    exact St.call (pre := []) hC (fun F1 _ => hSt.wide F1))
end
end Go.Proofs.Ytbelfaoolnijiaa
namespace Go.Proofs.Ytbelfaoolnijiaa
open Go

/-! ### Structs of an int and a text: compared, loaded out of an element, handed back -/
class KC (P : Program) (t : Nat) : Prop where
  guard : P.eqGuardType P.depth t = false
  out : ∀ (a b : Int) (s u : ByteArray) (w : World), (Op.equal t (.agg #[.int .i64 a, .string s]) (.agg #[.int .i64 b, .string u])).run P w = .ok (decide (a = b) && decide (s = u)) w
theorem KC.mk2 {P : Program} {t : Nat} {f0 f1 : Field} (hu : P.underlying t = some (.struct (P.fieldsOf t))) (hp : P.stoodInHeld t = false) (hf : (P.fieldsOf t).toList = [f0, f1]) (n0 : f0.name ≠ "_") (n1 : f1.name ≠ "_") (o0 : f0.offset = 0) (o1 : f1.offset = 1)
    (u0 : P.underlying f0.type = some (.int .i64)) (u1 : P.underlying f1.type = some .string) (hg : P.eqGuardType P.depth t = false) : KC P t := ⟨hg, fun a b s u w => by
  have p0 : P.plainKey f0.type = true := by simp [Program.plainKey, u0]
  have p1 : P.plainKey f1.type = true := by simp [Program.plainKey, u1]
  have hsu : (s.toList == u.toList) = decide (s = u) := by
    by_cases h : s = u
    · simp [h]
    · have : s.toList ≠ u.toList := fun e => h (by
        rw [ByteArray.toList_eq, ByteArray.toList_eq] at e
        obtain ⟨⟨x⟩⟩ := s
        obtain ⟨⟨y⟩⟩ := u
        simp at e
        rw [e])
      simp [h, this]
  have hab : (a == b) = decide (a = b) := by by_cases h : a = b <;> simp [h]
  show (Op.equalIn (9999 + 1) t _ _).run P w = _
  rw [run_equalIn_struct w 9999 t _ _ hu hp, hf]
  have e0 : ∀ (x y : Value), (part f0.type #[x, y] f0.offset).run P w = .ok x w := fun x y => by rw [o0]; exact run_part_plain w p0 rfl
  have e1 : ∀ (x y : Value), (part f1.type #[x, y] f1.offset).run P w = .ok y w := fun x y => by rw [o1]; exact run_part_plain w p1 rfl
  have q0 : (Op.equalIn 9999 f0.type (.int .i64 a) (.int .i64 b)).run P w = .ok (decide (a = b)) w := (run_equalIn_int w 9998 f0.type .i64 .i64 a b u0).trans (by rw [hab])
  have q1 : (Op.equalIn 9999 f1.type (.string s) (.string u)).run P w = .ok (decide (s = u)) w := (run_equalIn_string w 9998 f1.type s u u1).trans (by rw [hsu])
  simp only [Op.eqFields, n0, n1, ne_eq, not_false_eq_true, if_true, Sem.run_bind, e0, q0, Result.andThen_ok]
  by_cases ha : a = b
  · by_cases hs : s = u
    · simp only [ha, hs, decide_true] at q1 ⊢
      simp [e1, q1]
    · simp only [ha, hs, decide_true, decide_false] at q1 ⊢
      simp [e1, q1]
  · simp [ha]⟩

section
variable {X : Type} {P : Program} {n : Nat} {ds : List Deferred} {ops : Array Oper} {ev wk : Nat → Bool} {K : Env → (World → Prop) → Prop} {r : List Oper} {o : Oper} {k : Nat} {e : Env} {w0 : World} {F0 : Nat → Prop} {L L' : List Asn} {C : World → Prop} {E : Elem X} {T g cap : Nat} {xs : List X}
theorem h_eqK {t t2 : TypeId} {x y : Operand} {a b : Int} {s u : ByteArray} (ho : o.op = .binOp .eql t x y t2) (hx : e.op x = some (.agg #[.int .i64 a, .string s])) (hy : e.op y = some (.agg #[.int .i64 b, .string u]))
    (hk : KC P t)
    {dd : Nat} (hdst : o.dst = some dd) (hd : okD n (some dd) = true) (h : HX P n ds ops ev wk K r (k + 1) ((dd, .bool (decide (a = b) && decide (s = u))) :: e) C) : HX1 P n ds ops ev wk K o r k e C :=
  hx1_pure (by rw [ho]; rfl) hdst hd (fun a' w ha => by
    simp [execOp, ho, eqGuard, binOp, ha.eval hx, ha.eval hy, hk.out, hk.guard]) h
/-- Some cells of an element. -/
theorem h_rowLoadP {t i j s : Nat} {x : Operand} {d : TypeDesc} {y : X} {cs : Array Value} (ho : o.op = .load t x) (hp : Pull L (Row E T g cap xs) L') (hx : e.op x = some (.pointer (some ⟨g, i * E.sz + j, none⟩))) (hu : P.underlying t = some d) (hna : aggD d = true) (hs : SizeOf P t s)
    (hi : xs[i]? = some y) (hj : j + s ≤ E.sz) (hcs : (((E.enc y).drop j).take s).toArray = cs) {dd : Nat} (hdst : o.dst = some dd) (hd : okD n (some dd) = true) (h : HX P n ds ops ev wk K r (k + 1) ((dd, .agg cs) :: e) (St w0 F0 L)) : HX1 P n ds ops ev wk K o r k e (St w0 F0 L) :=
  hx1_read (by rw [ho]; rfl) (by rw [ho]; rfl) hdst hd (fun a w ha hC => by
    obtain ⟨F, _, cur, hb, _, _, _, hcell⟩ := hC.get hp
    have hc : ∀ l v, (((E.enc y).drop j).take s)[l]? = some v → w.cell? ((⟨g, i * E.sz + j, none⟩ : Addr).add l) = some v := fun l v hl => by
      have hls : l < s := by
        have := (List.getElem?_eq_some_iff.1 hl).1
        rw [List.length_take] at this
        omega
      have e1 : (⟨g, i * E.sz + j, none⟩ : Addr).add l = ⟨g, i * E.sz + (j + l), none⟩ := by
        unfold Addr.add
        split
        · rename_i h0; rw [h0]; rfl
        · rw [Nat.add_assoc]
      rw [e1, blk_cell hb]
      rw [List.getElem?_take_of_lt hls, List.getElem?_drop] at hl
      exact hcell i y hi (j + l) v hl
    subst hcs
    have hlen : (((E.enc y).drop j).take s).length = s := by rw [List.length_take, List.length_drop, E.len y]; omega
    simp [execOp, ho, ha.eval hx, run_loadN hu hna hs hlen hc]) h
end
section
variable {P : Program} {n : Nat} {ds : List Deferred} {ops : Array Oper} {ev wk : Nat → Bool} {K : Env → (World → Prop) → Prop} {r : List Oper} {o : Oper} {k : Nat} {e : Env} {C : World → Prop} {w0 : World} {F0 : Nat → Prop} {L L' : List Asn}
theorem h_buildSliceW {t el len size : Nat} {ps : Array (Nat × Operand)} {vs : List Value} {zv : Value} (hev : ev k = true) (ho : o.op = .buildSlice t len ps) (hu : P.underlying t = some (.slice el)) (hs : SizeOf P el size) (hz : ZeroOf P el zv) (hvs : e.elems 0 ps.toList = some vs) (hlen : Nat.beq vs.length len = true) (hsz : ∀ v ∈ vs, v.cells.size = size) (hbig : len * size ≤ 2 ^ 24)
    {dd : Nat} (hdst : o.dst = some dd) (hd : okD n (some dd) = true) (h : ∀ b, HX P n ds ops ev wk K r (k + 1) ((dd, .slice (some ⟨b, 0, none⟩) len len) :: e) (St w0 F0 (Blk b (.cells (vs.flatMap (fun v => v.cells.toList)).toArray el (0, 0)) :: L))) : HX1 P n ds ops ev wk K o r k e (St w0 F0 L) :=
  hx1_event hev (fun a w ha hC => by
    obtain ⟨e1, e2⟩ := ha.elems hvs
    have hl := Nat.eq_of_beq_eq_true hlen
    have e3 : ps.map (fun (i, x) => (i, a.eval x)) = ((vs.zipIdx 0).map (fun p => (p.2, p.1))).toArray := by
      rw [← e1]
      exact Array.ext' (by simp)
    unfold Oper.wp
    have : (execOp a.eval o).run P w = .ok (.value (.slice (some ⟨w.heap.size, 0, none⟩) len len)) (w.alloc (.cells (vs.flatMap (fun v => v.cells.toList)).toArray el (0, 0))) := by
      have hfill : ∀ (c0 : Array Value), c0.size = len * size → Instr.fill (fun i => some (i * size, size)) c0 ((vs.zipIdx 0).map (fun p => (p.2, p.1))) = some (vs.flatMap (fun v => v.cells.toList)).toArray := fun c0 hc => by
        have := fill_full (size := size) vs 0 c0 [] hsz (by simp) (by simpa [hl] using hc) (by simp)
        simpa using this
      simp only [execOp, ho, e3, Instr.buildSlice]
      have hn : ¬ (len * size > 2 ^ 24) := by omega
      by_cases h0 : len * size = 0
      · simp [run_und hu, run_size hs, h0]
        rw [hfill (Array.map (fun _ => default) (Array.range 0)) (by simp [h0])]
        simp [newRow]
      · have hf := hfill ((Array.range (len * size)).map (zv.cells[· % zv.cells.size]!)) (by simp)
        simp [run_und hu, run_size hs, hn, h0, run_zero hz] at hf ⊢
        simp [hf, newRow]
    rw [this]
    exact ⟨_, _, hC.new _, (fun _ _ hh => hh.drop), (by rw [hdst]; exact ha.put hd _), h _⟩)
/-- Where new arrays too may come ahead of what is read. -/
def wkW (ops : Array Oper) (i : Nat) : Bool := match ops[i]? with
  | some o => match o.op with
    | .box .. => true
    | .alloc .. => true
    | .makeMap .. => true
    | .buildSlice .. => true
    | _ => false
  | none => false
variable {Q : Exit → Act → World → Prop}
theorem hc_drawW {id : Nat} {l : List Oper} (hm : P.follows .mixedOrders = true) (hB : chkB l.toArray (evK l.toArray) (wkW l.toArray) = true)
    (h : HX P n ds l.toArray (evK l.toArray) (wkW l.toArray) (fun e' C' => HQ n ds Q .normal e' C') l 0 e (St w0 F0 L)) : HC P n ds (Code.region id l.toArray true) Q e (St w0 F0 L) := hc_draw hm hB h
end
section
variable {P : Program} {n : Nat} {e : Env} {w0 : World} {F0 : Nat → Prop} {L L' : List Asn}
/-- A first result that lies in a box of two cells. -/
theorem hq_retC3 {fn : Func} {x : Exit} {t t2 t3 ty b bt : Nat} {d : TypeDesc} {v1 v1' v2 v3 : Value} {fz : Nat × Nat} {post : Value → List Asn → Prop} {M : List Asn} (hx : x = .normal ∨ x = .ret) (hr : fn.results = #[.cell t ty, .tmp t2, .tmp t3])
    (hv : e.get t = some (.pointer (some ⟨b, 0, none⟩))) (hu : P.underlying ty = some d) (hna : aggD d = true) (hs : SizeOf P ty 2) (hpl : Pull L (Blk b (.cells #[v1, v1'] bt fz)) L') (hv2 : e.get t2 = some v2) (hv3 : e.get t3 = some v3) (hp : post (.tuple #[.agg #[v1, v1'], v2, v3]) M) (hst : ∀ w, St w0 F0 L w → St w0 F0 M w) :
    HQ n [] (bodyPost P fn (bodyR w0 F0 post)) x e (St w0 F0 L) := ⟨fun a w ha hC => by
  obtain ⟨F, _, hb⟩ := hC.get hpl
  have hc : ∀ j v, [v1, v1'][j]? = some v → w.cell? ((⟨b, 0, none⟩ : Addr).add j) = some v := fun j v hj => by
    have e1 : (⟨b, 0, none⟩ : Addr).add j = ⟨b, j, none⟩ := by
      unfold Addr.add
      split
      · rename_i h0; rw [h0]
      · simp
    rw [e1, blk_cell hb]
    simpa using hj
  have hld : (loadVar ty ⟨b, 0, none⟩).run P w = .ok (.agg #[v1, v1']) w := by
    have := run_loadN (P := P) (w := w) hu hna hs (vs := [v1, v1']) rfl hc
    simpa [Instr.loadAt, Instr.sureAddr] using this
  have hrun : (results fn a.tmps).run P w = .ok (.tuple #[.agg #[v1, v1'], v2, v3]) w := by simp [results, hr, ha.get _ _ hv, ha.get _ _ hv2, ha.get _ _ hv3, asAddr, hld]
  have : bodyR w0 F0 post (.returned (.tuple #[.agg #[v1, v1'], v2, v3])) w := ⟨_, M, rfl, hp, hst w hC⟩
  rcases hx with rfl | rfl
  · exact ⟨ha.defers, _, hrun, this⟩
  · exact ⟨ha.defers, _, hrun, this⟩⟩
end
end Go.Proofs.Ytbelfaoolnijiaa
namespace Go.Proofs.Ytbelfaoolnijiaa
open Go

/-! ### A drawn region walked in an order of one's own -/
section
variable {P : Program} {ev wk : Nat → Bool}
def chkO (ops : Array Oper) (ev wk : Nat → Bool) : List Nat → Array Bool → Bool
  | [], listed => (Region.ready .any ops listed).isEmpty
  | i :: ls, listed => okB ops ev wk listed i && chkO ops ev wk ls (listed.setIfInBounds i true)

theorem wpAnyE_txO {ops : Array Oper} {evp wkp : Nat → Bool} {K : Act → (World → Prop) → Prop} (hs : Region.noSelect ops = true) : ∀ (l : List (Nat × Oper)) (q : Nat) (listed : Array Bool) (a : Act) (C : World → Prop), Closed ops listed →
    (∀ j p, l[j]? = some p → ops[p.1]? = some p.2 ∧ evp (q + j) = ev p.1 ∧ wkp (q + j) = wk p.1) →
    chkO ops ev wk (l.map (·.1)) listed = true → TX P ops evp wkp K (l.map (·.2)) q a C → wpAnyE P ops ev wk K l.length listed a C
  | [], _, _, _, _, _, _, hB, h => ⟨by simpa [chkO] using hB, h⟩
  | (k, o) :: l, q, listed, a, C, hcl, hl, hB, h => by
    obtain ⟨h0, q1, q2⟩ := hl 0 (k, o) rfl
    rw [Nat.add_zero] at q1 q2
    dsimp only at h0 q1 q2
    have hl' : ∀ j p, l[j]? = some p → ops[p.1]? = some p.2 ∧ evp (q + 1 + j) = ev p.1 ∧ wkp (q + 1 + j) = wk p.1 := fun j p hj => by
      have := hl (j + 1) p (by simpa using hj)
      rwa [Nat.add_assoc, Nat.add_comm 1 j]
    simp only [List.map_cons, chkO, Bool.and_eq_true] at hB
    obtain ⟨hok, hB'⟩ := hB
    simp only [okB, h0] at hok
    simp only [List.map_cons, TX, q1, q2] at h
    by_cases hek : ev k = true
    · rw [if_pos hek] at hok
      have hrd : Region.ready .any ops listed = [k] := by simpa using hok
      have hkr : k ∈ Region.ready .any ops listed := by rw [hrd]; simp
      refine ⟨fun h0 => (by rw [hrd] at h0; cases h0), fun i hi => ?_⟩
      rw [hrd] at hi
      obtain rfl : i = k := by simpa using hi
      rw [if_pos hek]
      intro w hw
      unfold wpOp
      simp only [h0]
      split
      · rename_i hwant
        rw [if_pos hwant, if_pos hek] at h
        refine .inl (Oper.wp_mono ?_ (h w hw))
        rintro a' w' ⟨C', hC', hwk, ht⟩
        exact ⟨C', hC', hwk, wpAnyE_txO hs l _ _ a' C' (hcl.set hkr) hl' hB' ht⟩
      · rename_i hwant
        rw [if_neg hwant] at h
        exact ⟨C, hw, fun _ _ h => h, wpAnyE_txO hs l _ _ _ C (hcl.set hkr) hl' hB' h⟩
    · rw [if_neg hek] at hok
      simp only [Bool.and_eq_true, List.all_eq_true, List.mem_range, Bool.or_eq_true, Bool.not_eq_true'] at hok
      obtain ⟨⟨hr, hf⟩, hh⟩ := hok
      have hkr : k ∈ Region.ready .any ops listed := by simpa using hr
      have hhold : ∀ j, j < ops.size → listed.getD j true = false → ev j = true → waitsB ops ops.size j k = true ∨ pureB o.op = true ∨ (wk j = true ∧ callB o.op = false) := by
        intro j hj hun hej
        rcases hh j hj with (((h1 | h1) | h1) | h1) | h1
        · rw [hun] at h1; cases h1
        · rw [hej] at h1; cases h1
        · exact .inl h1
        · exact .inr (.inl h1)
        · exact .inr (.inr h1)
      by_cases hwant : Region.wanted o (yielded ops a.tmps) = true
      · rw [if_pos hwant, if_neg hek] at h
        obtain ⟨v, hy, ht⟩ := h
        exact wpAnyE_first h0 (by simpa using hek) (Region.noSelect_spec hs) l.length listed a C hcl (Region.free_spec h0 hf) hhold hkr hy
          (wpAnyE_txO hs l _ _ _ C (hcl.set hkr) hl' hB' ht)
      · rw [if_neg hwant] at h
        refine wpAnyE_first (v := undef) h0 (by simpa using hek) (Region.noSelect_spec hs) l.length listed a C hcl (Region.free_spec h0 hf) hhold hkr ?_
          (wpAnyE_txO hs l _ _ _ C (hcl.set hkr) hl' hB' h)
        have hw0 : Region.wanted o (yielded ops a.tmps) = false := by simpa using hwant
        unfold YldK
        split
        · exact .inr ⟨hw0, rfl⟩
        · split
          · exact .inr ⟨hw0, rfl⟩
          · exact .inr ⟨hw0, rfl⟩


theorem wp_region_txO {id : Nat} {Q : Exit → Act → World → Prop} {a : Act} {w : World} {l : List Oper} {C : World → Prop} (ord : List Nat) (hm : P.follows .mixedOrders = true) (hB : (Region.noSelect l.toArray && (ord.all (fun i => decide (i < l.length)) && chkO l.toArray ev wk ord (Array.replicate l.length false))) = true) (hn : ord.length = l.length) (hC : C { w with drawn := w.drawn + 1 })
    (h : TX P l.toArray (fun k => ev (ord.getD k 0)) (fun k => wk (ord.getD k 0)) (fun a' C' => ∀ w', C' w' → Q .normal a' w') (ord.map fun i => l.getD i default) 0 a C) : (Code.region id l.toArray true).wp P Q a w := by
  simp only [Bool.and_eq_true] at hB
  obtain ⟨hB1, hB2, hB3⟩ := hB
  refine wp_region_any hm (wpAny_of_E (ev := ev) (wk := wk) (K := fun a' C' => ∀ w', C' w' → Q .normal a' w') (fun _ _ w hw h => h w hw) _ _ _ C _ hC ?_)
  have hlen : (ord.map fun i => (i, l.getD i default)).length = l.length := by rw [List.length_map, hn]
  have := wpAnyE_txO (P := P) (ops := l.toArray) (ev := ev) (wk := wk) (evp := fun k => ev (ord.getD k 0)) (wkp := fun k => wk (ord.getD k 0)) hB1 (ord.map fun i => (i, l.getD i default)) 0 (Array.replicate l.toArray.size false) a C (closed_none _ _)
    (fun j p hj => by
      rw [List.getElem?_map] at hj
      cases ho : ord[j]? with
      | none => rw [ho] at hj; cases hj
      | some i =>
        rw [ho] at hj
        injection hj with hj
        subst hj
        have hi : i < l.length := by simpa using List.all_eq_true.1 hB2 i (List.mem_of_getElem? ho)
        have hg : ord.getD (0 + j) 0 = i := by rw [Nat.zero_add, List.getD_eq_getElem?_getD, ho]; rfl
        refine ⟨?_, by show ev (ord.getD (0 + j) 0) = ev i; rw [hg], by show wk (ord.getD (0 + j) 0) = wk i; rw [hg]⟩
        show l.toArray[i]? = some (l.getD i default)
        rw [List.getD_eq_getElem?_getD, List.getElem?_eq_getElem hi]
        simp [hi])
    (by
      rw [List.map_map]
      have : ((fun x : Nat × Oper => x.1) ∘ fun i => (i, l.getD i default)) = _root_.id := rfl
      rw [this, List.map_id]
      simpa using hB3)
    (by rw [List.map_map]; exact h)
  rw [hlen] at this
  simpa using this
end
section
variable {P : Program} {n : Nat} {ds : List Deferred} {Q : Exit → Act → World → Prop} {e : Env} {w0 : World} {F0 : Nat → Prop} {L : List Asn}
theorem tx_convO {ops : Array Oper} {ev wk : Nat → Bool} : ∀ (l' : List Oper) (k : Nat) (a : Act) (C : World → Prop), TX P ops ev wk (fun a' C' => ∃ e', Has n ds a' e' ∧ HQ n ds Q .normal e' C') l' k a C → TX P ops ev wk (fun a' C' => ∀ w', C' w' → Q .normal a' w') l' k a C := by
  intro l' k a C h
  have := tx_conv (P := P) (n := n) (ds := ds) (Q := Q) (l := ops.toList) (ev := ev) (wk := wk) l' k a C
  simp only [Array.toArray_toList] at this
  exact this h
theorem hc_drawO {id : Nat} {l : List Oper} (ord : List Nat) (wk : Nat → Bool) (hm : P.follows .mixedOrders = true) (hB : (Region.noSelect l.toArray && (ord.all (fun i => decide (i < l.length)) && chkO l.toArray (evK l.toArray) wk ord (Array.replicate l.length false))) = true) (hn : ord.length = l.length)
    (h : HX P n ds l.toArray (fun k => evK l.toArray (ord.getD k 0)) (fun k => wk (ord.getD k 0)) (fun e' C' => HQ n ds Q .normal e' C') (ord.map fun i => l.getD i default) 0 e (St w0 F0 L)) : HC P n ds (Code.region id l.toArray true) Q e (St w0 F0 L) := ⟨fun a w ha hC => by
  refine wp_region_txO (ev := evK l.toArray) (wk := wk) (C := St w0 F0 L) ord hm hB hn (hC.same (.drew w _ _)) ?_
  exact tx_convO _ _ _ _ (h.out a ha)⟩
end
theorem hc_conv {P : Program} {n : Nat} {ds : List Deferred} {Q : Exit → Act → World → Prop} {e : Env} {c : Code} {C C' : World → Prop} (hc : ∀ w, C w → C' w) (h : HC P n ds c Q e C') : HC P n ds c Q e C := ⟨fun a w ha hC => h.out a w ha (hc w hC)⟩
/-- A box of two cells, whatever they are. -/
def Any2 (b bt : Nat) : Asn := Ex fun x : Value × Value => Blk b (.cells #[x.1, x.2] bt (0, 0))
theorem Any2.mk {b bt : Nat} {u v : Value} {w0 : World} {F0 : Nat → Prop} {L : List Asn} {w : World} (h : St w0 F0 (Blk b (.cells #[u, v] bt (0, 0)) :: L) w) : St w0 F0 (Any2 b bt :: L) w := St.ex.2 ⟨(u, v), h⟩
section
variable {P : Program} {n : Nat} {ds : List Deferred} {ops : Array Oper} {ev wk : Nat → Bool} {K : Env → (World → Prop) → Prop} {r : List Oper} {o : Oper} {k : Nat} {e : Env} {w0 : World} {F0 : Nat → Prop} {L L' : List Asn}
/-- A store there may come ahead of what is read. -/
theorem h_storeAny {t b bt : Nat} {x y : Operand} {u v : Value} (hev : ev k = true) (ho : o.op = .store t x y) (hdst : o.dst = none) (hx : e.op x = some (.pointer (some ⟨b, 0, none⟩))) (hy : e.op y = some (.agg #[u, v])) (hs : SizeOf P t 2)
    (hp : Pull L (Any2 b bt) L') (h1 : u.oneCell' = true) (h2 : v.oneCell' = true)
    (h : HX P n ds ops ev wk K r (k + 1) e (St w0 F0 (Blk b (.cells #[u, v] bt (0, 0)) :: L'))) : HX1 P n ds ops ev wk K o r k e (St w0 F0 L) :=
  hx1_event hev (fun a w ha hC => by
    have hC' := hC.perm hp.perm
    obtain ⟨⟨c1, c2⟩, hC'⟩ := St.ex.1 hC'
    have hb := hC'.blk
    obtain ⟨w', hrun, hbut, hheap⟩ := run_storeAt (P := P) (off := 0) (v := .agg #[u, v]) hb hs rfl (Nat.le_refl _) (fun q hq => by
      have : q = u ∨ q = v := by simpa [Value.cells] using hq
      rcases this with rfl | rfl <;> assumption)
    have hop : (execOp a.eval o).run P w = .ok .skip w' := by
      simp [execOp, ho, ha.eval hx, ha.eval hy, hrun]
    unfold Oper.wp
    rw [hop]
    refine ⟨St w0 F0 (Blk b (.cells #[u, v] bt (0, 0)) :: L'), e, hC'.put hbut (show w'.heap[b]? = some (.cells #[u, v] bt (0, 0)) from hheap), fun _ q hq => ?_, (by rw [hdst]; exact ha), h⟩
    exact (St.ex.2 ⟨(u, v), hq⟩ : St w0 F0 (Any2 b bt :: L') q).perm hp.perm.symm)
end
end Go.Proofs.Ytbelfaoolnijiaa
namespace Go.Proofs.Ytbelfaoolnijiaa
open Go

/-! ### Reads that nothing in the region can turn: they yield in a class D that every event keeps -/
section
variable {P : Program} {ops : Array Oper} {ev : Nat → Bool}
def wpAnyD (P : Program) (ops : Array Oper) (ev : Nat → Bool) (D : World → Prop) (K : Act → (World → Prop) → Prop) : Nat → Array Bool → Act → (World → Prop) → Prop
  | 0, listed, a, C => Region.ready .any ops listed = [] ∧ K a C
  | fuel + 1, listed, a, C =>
    (Region.ready .any ops listed = [] → K a C) ∧
    ∀ i ∈ Region.ready .any ops listed,
      if ev i then ∀ w, C w → wpOp P ops QN i (fun a' w' => ∃ C' : World → Prop, C' w' ∧ (∀ x, C' x → D x) ∧ wpAnyD P ops ev D K fuel (listed.setIfInBounds i true) a' C') a w
      else qOp P ops C i (fun a' => wpAnyD P ops ev D K fuel (listed.setIfInBounds i true) a' C) a
theorem wpAny_of_D {D : World → Prop} {K : Act → (World → Prop) → Prop} {Q : Exit → Act → World → Prop} (hQ : ∀ a C w, C w → K a C → Q .normal a w) : ∀ (fuel : Nat) (listed : Array Bool) (a : Act) (C : World → Prop) (w : World), C w →
    wpAnyD P ops ev D K fuel listed a C → wpAny P .any ops Q fuel listed a w
  | 0, _, _, _, _, hw, h => ⟨h.1, hQ _ _ _ hw h.2⟩
  | fuel + 1, _, _, C, w, hw, h => by
    refine ⟨fun h0 => hQ _ _ _ hw (h.1 h0), fun i hi => ?_⟩
    have h1 := h.2 i hi
    split at h1
    · exact wpOp_monoQ (wpOp_mono (fun a' w' ⟨C', hC', _, h'⟩ => wpAny_of_D hQ fuel _ a' C' w' hC' h') (h1 w hw))
    · exact wpOp_of_qOp hw (fun a' w' hw' => wpAny_of_D hQ fuel _ a' C w' hw') h1
theorem yldD_toIn {C D : World → Prop} {o : Oper} {v : Value} {a : Act} (hnc : callB o.op = false) (hd : ∀ w, C w → D w) (h : YldK P ops o v a D) : YieldsIn P ops C o v a := by
  unfold YldK at h
  split at h
  · exact yldIf_toIn (fun _ _ => trivial) h
  · split at h
    · rename_i hc; rw [hnc] at hc; cases hc
    · exact yldIf_toIn hd h
theorem wpAnyD_first {D : World → Prop} {K : Act → (World → Prop) → Prop} {i : Nat} {oi : Oper} {v : Value} (hnc : callB oi.op = false) (hi : ops[i]? = some oi) (hev : ev i = false) (hsel : ∀ (j : Nat) (o : Oper) cs b, ops[j]? = some o → o.op ≠ .select cs b) :
    ∀ (fuel : Nat) (listed : Array Bool) (a : Act) (C : World → Prop), Closed ops listed →
      (∀ j oj, ops[j]? = some oj → j ≠ i → listed.getD j true = false → (∀ e ∈ oj.after, Region.binds .any e = true → e.on ≠ i) → oi.apart ops oj = true) →
      (∀ x, C x → D x) →
      i ∈ Region.ready .any ops listed → YldK P ops oi v a D →
      wpAnyD P ops ev D K fuel (listed.setIfInBounds i true) (a.put oi.dst v) C → wpAnyD P ops ev D K (fuel + 1) listed a C := by
  intro fuel
  induction fuel with
  | zero =>
    intro listed a C _ _ hCD hr hy H
    refine ⟨fun h => (by rw [h] at hr; cases hr), fun j hj => ?_⟩
    by_cases hji : j = i
    · subst hji; rw [if_neg (by simp [hev])]; exact (yldD_toIn hnc hCD hy).qOp hi H
    · have := ready_mono hj hji
      rw [H.1] at this
      cases this
  | succ fuel ih =>
    intro listed a C hcl hfree hCD hr hy H
    refine ⟨fun h => (by rw [h] at hr; cases hr), fun j hj => ?_⟩
    by_cases hji : j = i
    · subst hji; rw [if_neg (by simp [hev])]; exact (yldD_toIn hnc hCD hy).qOp hi H
    · have h1 := H.2 j (ready_mono hj hji)
      obtain ⟨hjun, oj, hoj, hall⟩ := mem_ready.1 hj
      have hiun : listed.getD i false = false := by
        have h0 := (mem_ready.1 hr).1
        rcases Nat.lt_or_ge i listed.size with h' | h'
        · simp [h'] at h0 ⊢; exact h0
        · simp [Array.getElem?_eq_none h'] at h0
      have hnot : ∀ e ∈ oj.after, Region.binds .any e = true → e.on ≠ i := fun e he hb heq => by
        have h1 := hall e he hb
        rw [heq, hiun] at h1; cases h1
      have hap := hfree j oj hoj hji hjun hnot
      have hfree' : ∀ k ok, ops[k]? = some ok → k ≠ i → (listed.setIfInBounds j true).getD k true = false →
          (∀ e ∈ ok.after, Region.binds .any e = true → e.on ≠ i) → oi.apart ops ok = true := fun k ok hk hki hun hno => by
        refine hfree k ok hk hki ?_ hno
        by_cases hjk : j = k
        · subst hjk; exact hjun
        · rw [getD_set_ne true hjk] at hun; exact hun
      obtain ⟨ap1, ap2, ap3⟩ := Oper.apart_spec hap
      have keep : ∀ (a : Act) u, YldK P ops oi v a D → YldK P ops oi v (a.put oj.dst u) D := fun a u hy =>
        yldK_same hy (execOp_put oi (fun cs b => hsel i oi cs b hi) a oj.dst u ap3) (wanted_put oi a oj.dst u ap3)
      by_cases hej : ev j = true
      · rw [if_pos hej] at h1 ⊢
        intro w hw
        have h2 := wpOp_putE (Y := fun a' => YldK P ops oi v a' D) hoj hap (fun cs b => hsel j oj cs b hoj) keep (fun a d hy => yldK_same hy rfl rfl) hy (h1 w hw)
        refine wpOp_mono (fun a' w' ⟨hy', C', hC', hD', h3⟩ => ⟨C', hC', hD', ih (listed.setIfInBounds j true) a' C' (hcl.set hj) hfree' hD' (ready_mono hr (Ne.symm hji)) hy' ?_⟩) h2
        rw [Array.setIfInBounds_comm _ _ hji]
        exact h3
      · rw [if_neg hej] at h1 ⊢
        have h2 := qOp_put hoj hap (fun cs b => hsel i oi cs b hi) (fun cs b => hsel j oj cs b hoj) (yldD_toIn hnc hCD hy) h1
        have h2' : qOp P ops C j (fun a' => YldK P ops oi v a' D ∧ wpAnyD P ops ev D K fuel ((listed.setIfInBounds i true).setIfInBounds j true) (a'.put oi.dst v) C) a := by
          unfold qOp at h2 ⊢
          simp only [hoj] at h2 ⊢
          split at h2
          · rename_i hw
            rw [if_pos hw]
            obtain ⟨u, hu, _, hn⟩ := h2
            exact ⟨u, hu, keep a u hy, hn⟩
          · rename_i hw
            rw [if_neg hw]
            exact ⟨keep a _ hy, h2.2⟩
        refine qOp_mono (fun a' h3 => ih (listed.setIfInBounds j true) a' C (hcl.set hj) hfree' hCD (ready_mono hr (Ne.symm hji)) h3.1 ?_) h2'
        rw [Array.setIfInBounds_comm _ _ hji]
        exact h3.2
/-- The walk, reads under D. -/
def TXD (P : Program) (ops : Array Oper) (ev : Nat → Bool) (D : World → Prop) (K : Act → (World → Prop) → Prop) : List (Nat × Oper) → Act → (World → Prop) → Prop
  | [], a, C => K a C
  | (i, o) :: r, a, C =>
    if Region.wanted o (yielded ops a.tmps) = true then
      if ev i = true then ∀ w, C w → o.wp P a w (fun a' w' => ∃ C' : World → Prop, C' w' ∧ (∀ x, C' x → D x) ∧ TXD P ops ev D K r a' C') QN
      else ∃ v, YldK P ops o v a D ∧ TXD P ops ev D K r (a.put o.dst v) C
    else TXD P ops ev D K r (a.put o.dst undef) C
def okDB (ops : Array Oper) (ev : Nat → Bool) (listed : Array Bool) (i : Nat) : Bool :=
  match ops[i]? with
  | none => false
  | some o => if ev i then Region.ready .any ops listed == [i] else (Region.ready .any ops listed).contains i && (Region.free .any ops listed i && !callB o.op)
def chkD (ops : Array Oper) (ev : Nat → Bool) : List Nat → Array Bool → Bool
  | [], listed => (Region.ready .any ops listed).isEmpty
  | i :: ls, listed => okDB ops ev listed i && chkD ops ev ls (listed.setIfInBounds i true)
theorem wpAnyD_tx {D : World → Prop} {K : Act → (World → Prop) → Prop} (hs : Region.noSelect ops = true) : ∀ (l : List (Nat × Oper)) (listed : Array Bool) (a : Act) (C : World → Prop), Closed ops listed → (∀ x, C x → D x) →
    (∀ p ∈ l, ops[p.1]? = some p.2) →
    chkD ops ev (l.map (·.1)) listed = true → TXD P ops ev D K l a C → wpAnyD P ops ev D K l.length listed a C
  | [], _, _, _, _, _, _, hB, h => ⟨by simpa [chkD] using hB, h⟩
  | (k, o) :: l, listed, a, C, hcl, hCD, hl, hB, h => by
    have h0 : ops[k]? = some o := hl (k, o) (List.mem_cons_self ..)
    have hl' : ∀ p ∈ l, ops[p.1]? = some p.2 := fun p hp => hl p (List.mem_cons_of_mem _ hp)
    simp only [List.map_cons, chkD, Bool.and_eq_true] at hB
    obtain ⟨hok, hB'⟩ := hB
    simp only [okDB, h0] at hok
    simp only [TXD] at h
    by_cases hek : ev k = true
    · rw [if_pos hek] at hok
      have hrd : Region.ready .any ops listed = [k] := by simpa using hok
      have hkr : k ∈ Region.ready .any ops listed := by rw [hrd]; simp
      refine ⟨fun h0 => (by rw [hrd] at h0; cases h0), fun i hi => ?_⟩
      rw [hrd] at hi
      obtain rfl : i = k := by simpa using hi
      rw [if_pos hek]
      intro w hw
      unfold wpOp
      simp only [h0]
      split
      · rename_i hwant
        rw [if_pos hwant, if_pos hek] at h
        refine .inl (Oper.wp_mono ?_ (h w hw))
        rintro a' w' ⟨C', hC', hD', ht⟩
        exact ⟨C', hC', hD', wpAnyD_tx hs l _ a' C' (hcl.set hkr) hD' hl' hB' ht⟩
      · rename_i hwant
        rw [if_neg hwant] at h
        exact ⟨C, hw, hCD, wpAnyD_tx hs l _ _ C (hcl.set hkr) hCD hl' hB' h⟩
    · rw [if_neg hek] at hok
      simp only [Bool.and_eq_true, Bool.not_eq_true'] at hok
      obtain ⟨hr, hf, hnc⟩ := hok
      have hkr : k ∈ Region.ready .any ops listed := by simpa using hr
      by_cases hwant : Region.wanted o (yielded ops a.tmps) = true
      · rw [if_pos hwant, if_neg hek] at h
        obtain ⟨v, hy, ht⟩ := h
        exact wpAnyD_first hnc h0 (by simpa using hek) (Region.noSelect_spec hs) l.length listed a C hcl (Region.free_spec h0 hf) hCD hkr hy
          (wpAnyD_tx hs l _ _ C (hcl.set hkr) hCD hl' hB' ht)
      · rw [if_neg hwant] at h
        refine wpAnyD_first (v := undef) hnc h0 (by simpa using hek) (Region.noSelect_spec hs) l.length listed a C hcl (Region.free_spec h0 hf) hCD hkr ?_
          (wpAnyD_tx hs l _ _ C (hcl.set hkr) hCD hl' hB' h)
        have hw0 : Region.wanted o (yielded ops a.tmps) = false := by simpa using hwant
        unfold YldK
        split
        · exact .inr ⟨hw0, rfl⟩
        · split
          · exact .inr ⟨hw0, rfl⟩
          · exact .inr ⟨hw0, rfl⟩
theorem wp_region_txD {id : Nat} {Q : Exit → Act → World → Prop} {a : Act} {w : World} {l : List Oper} {C D : World → Prop} (ord : List Nat) (hm : P.follows .mixedOrders = true) (hB : (Region.noSelect l.toArray && (ord.all (fun i => decide (i < l.length)) && chkD l.toArray ev ord (Array.replicate l.length false))) = true) (hn : ord.length = l.length) (hC : C { w with drawn := w.drawn + 1 }) (hCD : ∀ x, C x → D x)
    (h : TXD P l.toArray ev D (fun a' C' => ∀ w', C' w' → Q .normal a' w') (ord.map fun i => (i, l.getD i default)) a C) : (Code.region id l.toArray true).wp P Q a w := by
  simp only [Bool.and_eq_true] at hB
  obtain ⟨hB1, hB2, hB3⟩ := hB
  refine wp_region_any hm (wpAny_of_D (ev := ev) (D := D) (K := fun a' C' => ∀ w', C' w' → Q .normal a' w') (fun _ _ w hw h => h w hw) _ _ _ C _ hC ?_)
  have hlen : (ord.map fun i => (i, l.getD i default)).length = l.length := by rw [List.length_map, hn]
  have := wpAnyD_tx (P := P) (ops := l.toArray) (ev := ev) hB1 (ord.map fun i => (i, l.getD i default)) (Array.replicate l.toArray.size false) a C (closed_none _ _) hCD
    (fun p hp => by
      obtain ⟨i, hi, rfl⟩ := List.mem_map.1 hp
      have hi' : i < l.length := by simpa using List.all_eq_true.1 hB2 i hi
      show l.toArray[i]? = some (l.getD i default)
      rw [List.getD_eq_getElem?_getD, List.getElem?_eq_getElem hi']
      simp [hi'])
    (by
      rw [List.map_map]
      have : ((fun x : Nat × Oper => x.1) ∘ fun i => (i, l.getD i default)) = _root_.id := rfl
      rw [this, List.map_id]
      simpa using hB3) h
  rw [hlen] at this
  simpa using this
end
end Go.Proofs.Ytbelfaoolnijiaa
namespace Go.Proofs.Ytbelfaoolnijiaa
open Go

/-! ### The walk of such a region on environments -/
section
variable {P : Program} {ops : Array Oper} {ev : Nat → Bool} {D : World → Prop}
theorem txd_mono {K K' : Act → (World → Prop) → Prop} (hK : ∀ a C, K a C → K' a C) : ∀ (l : List (Nat × Oper)) (a : Act) (C : World → Prop), TXD P ops ev D K l a C → TXD P ops ev D K' l a C
  | [], _, _, h => hK _ _ h
  | (i, o) :: l, a, C, h => by
    simp only [TXD] at h ⊢
    split
    · rename_i hw
      rw [if_pos hw] at h
      split
      · rename_i he
        rw [if_pos he] at h
        exact fun w hC => Oper.wp_mono (fun a' w' ⟨C', h1, h2, h3⟩ => ⟨C', h1, h2, txd_mono hK l a' C' h3⟩) (h w hC)
      · rename_i he
        rw [if_neg he] at h
        obtain ⟨v, h1, h2⟩ := h
        exact ⟨v, h1, txd_mono hK l _ C h2⟩
    · rename_i hw
      rw [if_neg hw] at h
      exact txd_mono hK l _ C h
theorem txd_reads {K K1 : Act → (World → Prop) → Prop} {wk : Nat → Bool} {r : List (Nat × Oper)} {C : World → Prop} (hK : ∀ a, K1 a D → TXD P ops ev D K r a C) : ∀ (l : List (Nat × Oper)) (k : Nat) (a : Act), (∀ p ∈ l, ev p.1 = false) →
    TX P ops (fun _ => false) wk K1 (l.map (·.2)) k a D → TXD P ops ev D K (l ++ r) a C
  | [], _, a, _, h => hK a h
  | (i, o) :: l, k, a, he, h => by
    have he0 : ev i = false := he (i, o) (List.mem_cons_self ..)
    have he' : ∀ p ∈ l, ev p.1 = false := fun p hp => he p (List.mem_cons_of_mem _ hp)
    simp only [List.map_cons, TX] at h
    simp only [List.cons_append, TXD]
    split
    · rename_i hw
      rw [if_pos hw, if_neg (by simp)] at h
      obtain ⟨v, h1, h2⟩ := h
      rw [if_neg (by simp [he0])]
      exact ⟨v, h1, txd_reads hK l (k + 1) _ he' h2⟩
    · rename_i hw
      rw [if_neg hw] at h
      exact txd_reads hK l (k + 1) _ he' h
end
structure HD (P : Program) (n : Nat) (ds : List Deferred) (ops : Array Oper) (ev : Nat → Bool) (D : World → Prop) (K : Env → (World → Prop) → Prop) (r : List (Nat × Oper)) (e : Env) (C : World → Prop) : Prop where
  out : ∀ a, Has n ds a e → TXD P ops ev D (fun a' C' => ∃ e', Has n ds a' e' ∧ K e' C') r a C
section
variable {P : Program} {n : Nat} {ds : List Deferred} {ops : Array Oper} {ev : Nat → Bool} {D : World → Prop} {K : Env → (World → Prop) → Prop} {r : List (Nat × Oper)} {e : Env} {C : World → Prop} {w0 : World} {F0 : Nat → Prop} {L : List Asn}
theorem hd_nil (h : K e C) : HD P n ds ops ev D K [] e C := ⟨fun _ ha => ⟨e, ha, h⟩⟩
/-- First what yields under D. -/
theorem hd_reads (l1 : List (Nat × Oper)) (he : (l1.all fun p => !ev p.1) = true) (h : HX P n ds ops (fun _ => false) (fun _ => false) (fun e' _ => HD P n ds ops ev D K r e' C) (l1.map (·.2)) 0 e D) : HD P n ds ops ev D K (l1 ++ r) e C := ⟨fun a ha =>
  txd_reads (fun a' ⟨_, h1, h2⟩ => h2.out a' h1) l1 0 a (fun p hp => by simpa using List.all_eq_true.1 he p hp) (h.out a ha)⟩
theorem hd_call {i : Nat} {o : Oper} {c : Call} {f : FuncId} {fo : Operand} {vs : List Value} {cap : Array Value} {pre rest : List Asn} {post : Value → List Asn → Prop} (hg : o.guard = none) (hev : ev i = true) (ho : o.op = .call c) (hc : c.callee = .value fo) (hf : e.op fo = some (.func (.func f) #[] cap)) (hvs : e.ops c.args.toList = some vs)
    {dd : Nat} (hdst : o.dst = some dd) (hd : okD n (some dd) = true) (he : Enters P f) (hpu : Pulls L pre rest) (hs : Spec P f (vs ++ cap.toList) pre post)
    (hD : ∀ v M, post v M → ∀ x, St w0 F0 (M ++ rest) x → D x)
    (h : ∀ v M, post v M → HD P n ds ops ev D K r ((dd, v) :: e) (St w0 F0 (M ++ rest))) : HD P n ds ops ev D K ((i, o) :: r) e (St w0 F0 L) := ⟨fun a ha => by
  simp only [TXD]
  rw [if_pos (by simp [Region.wanted, hg]), if_pos hev]
  intro w hC
  have hC' : St w0 F0 (pre ++ rest) w := hC.perm hpu.perm
  unfold Oper.wp
  rw [run_call he hc (ha.eval hf) (ha.evals hvs) ho]
  obtain ⟨F, h1, h2, h3⟩ := hC'
  obtain ⟨F1, F2, s1, s2, s3, s4⟩ := h1.tight.split
  have hcall := hs w F1 s1
  have e1 : (vs ++ cap.toList).toArray = vs.toArray ++ cap := by simp
  rw [e1] at hcall
  refine hcall.mono ?_
  rintro en w' ⟨v, M, rfl, hp, hSt⟩
  refine ⟨St w0 F0 (M ++ rest), ?_, hD v M hp, (h v M hp).out _ (by rw [hdst]; exact ha.put hd v)⟩
  obtain ⟨G, g1, g2, g3⟩ := hSt
  have t2 := s2.tight
  refine ⟨fun b => G b ∨ (F2 b ∧ b < w.heap.size), g1.join (t2.loc fun b hb => g2.blk b hb.2 fun hb1 => s3 b hb1 hb.1) (fun b hb hc => ?_) (fun _ h => h), ⟨g2.os.trans h2.os, g2.tape.trans h2.tape, g2.output.trans h2.output, Nat.le_trans h2.size g2.size, fun k hk hn => ?_⟩, fun b hb => ?_⟩
  · rcases g3 b hb with h | h
    · exact s3 b h hc.1
    · exact absurd hc.2 (by omega)
  · refine (g2.blk k (Nat.lt_of_lt_of_le hk h2.size) fun hk1 => ?_).trans (h2.blk k hk hn)
    rcases h3 k (s4 k (.inl hk1)).1 with h | h
    · exact hn h
    · omega
  · rcases hb with hb | hb
    · rcases g3 b hb with h | h
      · exact h3 b (s4 b (.inl h)).1
      · exact .inr (Nat.le_trans h2.size h)
    · exact h3 b (s4 b (.inr hb.1)).1⟩
theorem hd_callW {i : Nat} {o : Oper} {c : Call} {f : FuncId} {fo : Operand} {vs : List Value} {cap : Array Value} {post : Value → List Asn → Prop} (hg : o.guard = none) (hev : ev i = true) (ho : o.op = .call c) (hc : c.callee = .value fo) (hf : e.op fo = some (.func (.func f) #[] cap)) (hvs : e.ops c.args.toList = some vs)
    {dd : Nat} (hdst : o.dst = some dd) (hd : okD n (some dd) = true) (he : Enters P f)
    (hs : ∀ w, St w0 F0 L w → Calls P f (vs ++ cap.toList).toArray w (fun en w' => ∃ v M, en = .returned v ∧ post v M ∧ St w nowhere M w'))
    (hD : ∀ v M, post v M → ∀ x, St w0 F0 (M ++ L) x → D x)
    (h : ∀ v M, post v M → HD P n ds ops ev D K r ((dd, v) :: e) (St w0 F0 (M ++ L))) : HD P n ds ops ev D K ((i, o) :: r) e (St w0 F0 L) := ⟨fun a ha => by
  simp only [TXD]
  rw [if_pos (by simp [Region.wanted, hg]), if_pos hev]
  intro w hC
  unfold Oper.wp
  rw [run_call he hc (ha.eval hf) (ha.evals hvs) ho]
  have hcall := hs w hC
  have e1 : (vs ++ cap.toList).toArray = vs.toArray ++ cap := by simp
  rw [e1] at hcall
  refine hcall.mono ?_
  rintro en w' ⟨v, M, rfl, hp, hSt⟩
  exact ⟨St w0 F0 (M ++ L), St.call (pre := []) hC (fun F1 _ => hSt.wide F1), hD v M hp, (h v M hp).out _ (by rw [hdst]; exact ha.put hd v)⟩⟩
variable {Q : Exit → Act → World → Prop}
theorem hc_drawD {id : Nat} {l : List Oper} (ord : List Nat) (hm : P.follows .mixedOrders = true) (hB : (Region.noSelect l.toArray && (ord.all (fun i => decide (i < l.length)) && chkD l.toArray (evK l.toArray) ord (Array.replicate l.length false))) = true) (hn : ord.length = l.length) (hCD : ∀ x, St w0 F0 L x → D x)
    (h : HD P n ds l.toArray (evK l.toArray) D (fun e' C' => HQ n ds Q .normal e' C') (ord.map fun i => (i, l.getD i default)) e (St w0 F0 L)) : HC P n ds (Code.region id l.toArray true) Q e (St w0 F0 L) := ⟨fun a w ha hC => by
  refine wp_region_txD (ev := evK l.toArray) (C := St w0 F0 L) (D := D) ord hm hB hn (hC.same (.drew w _ _)) hCD ?_
  exact txd_mono (fun a' C' ⟨e', h1, h2⟩ w' hw' => h2.out a' w' h1 hw') _ _ _ (h.out a ha)⟩
theorem hc_drawD2 {id : Nat} {l : List Oper} (o1 o2 : List Nat) (hm : P.follows .mixedOrders = true) (hB : (Region.noSelect l.toArray && ((o1 ++ o2).all (fun i => decide (i < l.length)) && chkD l.toArray (evK l.toArray) (o1 ++ o2) (Array.replicate l.length false))) = true) (hn : (o1 ++ o2).length = l.length) (hCD : ∀ x, St w0 F0 L x → D x) (he : (o1.all fun i => !evK l.toArray i) = true)
    (h : HX P n ds l.toArray (fun _ => false) (fun _ => false) (fun e' _ => HD P n ds l.toArray (evK l.toArray) D (fun e' C' => HQ n ds Q .normal e' C') (o2.map fun i => (i, l.getD i default)) e' (St w0 F0 L)) (o1.map fun i => l.getD i default) 0 e D) : HC P n ds (Code.region id l.toArray true) Q e (St w0 F0 L) :=
  hc_drawD (o1 ++ o2) hm hB hn hCD (by
    rw [List.map_append]
    refine hd_reads _ (by rw [List.all_map]; exact he) ?_
    rw [List.map_map]
    exact h)
theorem hd_end (l1 : List (Nat × Oper)) (he : (l1.all fun p => !ev p.1) = true) (h : HX P n ds ops (fun _ => false) (fun _ => false) (fun e' _ => HD P n ds ops ev D K [] e' C) (l1.map (·.2)) 0 e D) : HD P n ds ops ev D K l1 e C := by
  have := hd_reads (C := C) l1 he h
  rwa [List.append_nil] at this
end
end Go.Proofs.Ytbelfaoolnijiaa
namespace Go.Proofs.Ytbelfaoolnijiaa
open Go

/-! ### Lists that were handed out: they may share arrays, and read as they should -/
section
variable {X : Type} {f : Nat → X} {k n m i : Nat}
def Seq (f : Nat → X) (k : Nat) : List X := (List.range k).map f
theorem Seq.len : (Seq f k).length = k := by simp [Seq]
theorem Seq.get (h : i < k) : (Seq f k)[i]? = some (f i) := by simp [Seq, h]
theorem Seq.get_some {x : X} (h : (Seq f k)[i]? = some x) : i < k ∧ x = f i := by
  have h1 := (List.getElem?_eq_some_iff.1 h).1
  rw [Seq.len] at h1
  rw [Seq.get h1] at h
  exact ⟨h1, (Option.some.inj h).symm⟩
theorem Seq.zero : Seq f 0 = [] := rfl
theorem Seq.succ : Seq f (k + 1) = Seq f k ++ [f k] := by simp [Seq, List.range_succ]
theorem Seq.add : Seq f (n + m) = Seq f n ++ Seq (fun i => f (n + i)) m := by
  induction m with
  | zero => simp [Seq.zero]
  | succ m ih => rw [← Nat.add_assoc, Seq.succ, ih, Seq.succ, List.append_assoc]
theorem Seq.take (h : n ≤ k) : (Seq f k).take n = Seq f n := by
  obtain ⟨d, rfl⟩ := Nat.exists_eq_add_of_le h
  rw [Seq.add, List.take_append_of_le_length (by rw [Seq.len]; exact Nat.le_refl _), List.take_of_length_le (by rw [Seq.len]; exact Nat.le_refl _)]
theorem Seq.const {x : X} : Seq (fun _ => x) k = List.replicate k x := by
  induction k with
  | zero => rfl
  | succ k ih => rw [Seq.succ, ih, List.replicate_succ']
theorem Seq.congr {g : Nat → X} (h : ∀ i, i < k → f i = g i) : Seq f k = Seq g k := by
  unfold Seq
  exact List.map_congr_left (fun i hi => h i (List.mem_range.1 hi))
end
variable {X : Type}
theorem enc_len (E : Elem X) : ∀ (l : List X), (l.flatMap E.enc).length = l.length * E.sz := by
  intro l
  induction l with
  | nil => simp
  | cons q l ih => simp [ih, E.len, Nat.add_mul, Nat.add_comm]
theorem enc_of (E : Elem X) : ∀ (l : List X) (j : Nat) (u : Value), (l.flatMap E.enc)[j]? = some u → ∃ i q j', l[i]? = some q ∧ (E.enc q)[j']? = some u ∧ j = i * E.sz + j' := by
  intro l
  induction l with
  | nil => intro j u hj; simp at hj
  | cons q l ih =>
    intro j u hj
    rw [List.flatMap_cons] at hj
    rcases Nat.lt_or_ge j (E.enc q).length with hlt | hge
    · rw [List.getElem?_append_left hlt] at hj
      exact ⟨0, q, j, rfl, hj, by simp⟩
    · rw [List.getElem?_append_right hge] at hj
      obtain ⟨i, q', j', h1, h2, h3⟩ := ih _ _ hj
      refine ⟨i + 1, q', j', h1, h2, ?_⟩
      rw [E.len] at h3 hge
      rw [Nat.add_mul]
      omega
theorem enc_at (E : Elem X) (l : List X) (i : Nat) (q : X) (h : l[i]? = some q) (j : Nat) (u : Value) (hj : (E.enc q)[j]? = some u) : (l.flatMap E.enc)[i * E.sz + j]? = some u := by
  have := flat_row E l i q h j u hj
  simpa using this

theorem add_lit (b off j : Nat) : (⟨b, off, none⟩ : Addr).add j = ⟨b, off + j, none⟩ := by
  unfold Addr.add
  split
  · rename_i h0; rw [h0]; rfl
  · rfl

/-- One piece taken apart: what comes of it is put in its place. -/
theorem St.split1 {w0 : World} {F0 : Nat → Prop} {A : Asn} {rest : List Asn} {w : World} (h : St w0 F0 (A :: rest) w) : ∃ F1, A.p w F1 ∧ ∀ w' post, St w F1 post w' → St w0 F0 (post ++ rest) w' := by
  obtain ⟨F, h1, h2, h3⟩ := h
  obtain ⟨F1, F2, s1, s2, s3, s4⟩ := h1.tight
  refine ⟨F1, s1, fun w' post hg => ?_⟩
  obtain ⟨G, g1, g2, g3⟩ := hg
  have t2 := s2.tight
  refine ⟨fun b => G b ∨ (F2 b ∧ b < w.heap.size), g1.join (t2.loc fun b hb => g2.blk b hb.2 fun hb1 => s3 b hb1 hb.1) (fun b hb hc => ?_) (fun _ h => h), ⟨g2.os.trans h2.os, g2.tape.trans h2.tape, g2.output.trans h2.output, Nat.le_trans h2.size g2.size, fun k hk hn => ?_⟩, fun b hb => ?_⟩
  · rcases g3 b hb with h | h
    · exact s3 b h hc.1
    · exact absurd hc.2 (by omega)
  · refine (g2.blk k (Nat.lt_of_lt_of_le hk h2.size) fun hk1 => ?_).trans (h2.blk k hk hn)
    rcases h3 k (s4 k (.inl hk1)).1 with h | h
    · exact hn h
    · omega
  · rcases hb with hb | hb
    · rcases g3 b hb with h | h
      · exact h3 b (s4 b (.inl h)).1
      · exact .inr (Nat.le_trans h2.size h)
    · exact h3 b (s4 b (.inr hb.1)).1
theorem St.map {w0 : World} {F0 : Nat → Prop} {A B : Asn} {L : List Asn} {w : World} (hm : ∀ F, A.p w F → B.p w F) (h : St w0 F0 (A :: L) w) : St w0 F0 (B :: L) w :=
  let ⟨F, ⟨F1, F2, h1, r⟩, rr⟩ := h; ⟨F, ⟨F1, F2, hm _ h1, r⟩, rr⟩
theorem st_one {w w' : World} {A : Asn} {F G : Nat → Prop} (h : A.p w' G) (hb : But w w' F) (hG : ∀ b, G b → F b ∨ w.heap.size ≤ b) : St w F [A] w' :=
  ⟨G, ⟨G, nowhere, h, trivial, fun _ _ h => h.elim, fun _ h => h.elim id False.elim⟩, hb, hG⟩
theorem Row.at {E : Elem X} {T g cap : Nat} {xs : List X} {w : World} {F : Nat → Prop} (h : (Row E T g cap xs).p w F) : (Row E T g cap xs).p w (fun x => x = g) := ⟨fun _ => Iff.rfl, h.2⟩

/-- Arrays into which the slices 'ents' of so many elements reach: each slice reads as the first ones of f. -/
def Pool (E : Elem X) (T : Nat) (f : Nat → X) (ents : List (Value × Nat)) : Asn where
  p w F := ∃ cf kf : Nat → Nat, (∀ g, F g → (Row E T g (cf g) (Seq f (kf g))).p w (fun x => x = g)) ∧ ∀ q ∈ ents, (q.1 = .slice none 0 0 ∧ q.2 = 0) ∨ ∃ g, F g ∧ q.1 = .slice (some ⟨g, 0, none⟩) q.2 (cf g) ∧ q.2 ≤ kf g
  lt := fun ⟨cf, kf, h, _⟩ b hb => (Row E T b (cf b) (Seq _ (kf b))).lt (h b hb) b rfl
  loc := fun ⟨cf, kf, h, r⟩ hh => ⟨cf, kf, fun g hg => (Row E T g (cf g) (Seq _ (kf g))).loc (h g hg) (fun b hb => by subst hb; exact hh _ hg), r⟩
theorem St.pool {E : Elem X} {T n : Nat} {f : Nat → X} {v : Value} {w0 : World} {F0 : Nat → Prop} {L : List Asn} {w : World} (h : St w0 F0 (RowV E T v (Seq f n) :: L) w) : St w0 F0 (Pool E T f [(v, n)] :: L) w :=
  h.map fun F hp => by
    rcases hp with ⟨rfl, h2, h3⟩ | ⟨g, cap, rfl, h1⟩
    · have : n = 0 := by have := congrArg List.length h2; rwa [Seq.len] at this
      subst this
      exact ⟨fun _ => 0, fun _ => 0, fun g hg => (h3 g hg).elim, fun q hq => by
        rw [List.mem_singleton.1 hq]
        exact .inl ⟨rfl, rfl⟩⟩
    · refine ⟨fun _ => cap, fun _ => n, fun g' hg => ?_, fun q hq => ?_⟩
      · obtain rfl := (h1.1 g').1 hg
        exact Row.at h1
      · rw [List.mem_singleton.1 hq]
        exact .inr ⟨g, (h1.1 g).2 rfl, by rw [Seq.len], Nat.le_refl _⟩

/-- v reads as xs, in blocks of F. -/
def InF (E : Elem X) (w : World) (F : Nat → Prop) (v : Value) (xs : List X) : Prop :=
  ∃ a cap, v = .slice a xs.length cap ∧ xs.length ≤ cap ∧ cap ≤ maxLen ∧ (xs = [] ∨ ∃ g off, F g ∧ a = some ⟨g, off, none⟩ ∧ ∀ i x, xs[i]? = some x → ∀ j u, (E.enc x)[j]? = some u → w.cell? ⟨g, off + i * E.sz + j, none⟩ = some u)
theorem InF.rd {E : Elem X} {w : World} {F : Nat → Prop} {v : Value} {xs : List X} (h : InF E w F v xs) : Rd E w v xs :=
  let ⟨a, cap, h1, h2, h3, h4⟩ := h
  ⟨a, cap, h1, h2, h3, h4.imp id fun ⟨g, off, _, e, hc⟩ => ⟨g, off, e, hc⟩⟩
theorem InF.mono {E : Elem X} {w : World} {F G : Nat → Prop} {v : Value} {xs : List X} (h : InF E w F v xs) (hF : ∀ b, F b → G b) : InF E w G v xs :=
  let ⟨a, cap, h1, h2, h3, h4⟩ := h
  ⟨a, cap, h1, h2, h3, h4.imp id fun ⟨g, off, hg, e, hc⟩ => ⟨g, off, hF g hg, e, hc⟩⟩
/-- The slices 'ents' read so. -/
def Holds (E : Elem X) (ents : List (Value × List X)) : Asn where
  p w F := (∀ q ∈ ents, InF E w F q.1 q.2) ∧ ∀ b, F b → b < w.heap.size
  lt := fun h => h.2
  loc := fun {w w' F} ⟨h1, h2⟩ hh => ⟨fun q hq => by
      obtain ⟨a, cap, g1, g2, g3, g4⟩ := h1 q hq
      refine ⟨a, cap, g1, g2, g3, g4.imp id ?_⟩
      rintro ⟨g, off, hg, e, hc⟩
      refine ⟨g, off, hg, e, fun i x hx j u hu => ?_⟩
      have := hc i x hx j u hu
      unfold World.cell? at this ⊢
      dsimp only at this ⊢
      rw [hh g hg]
      exact this, fun b hb => by
      have e := hh b hb
      rw [Array.getElem?_eq_getElem (h2 b hb)] at e
      exact (Array.getElem?_eq_some_iff.1 e).1⟩
section
variable {E : Elem X} {T : Nat} {f : Nat → X} {w0 : World} {F0 : Nat → Prop} {L L' : List Asn} {w : World}
theorem St.holds_nil (h : St w0 F0 L w) : St w0 F0 (Holds E [] :: L) w := by
  obtain ⟨F, h1, r⟩ := h
  exact ⟨F, ⟨nowhere, F, ⟨(fun q hq => by cases hq), fun _ h => h.elim⟩, h1, fun _ h => h.elim, fun _ h => h.elim False.elim id⟩, r⟩
theorem St.pool_holds {ents : List (Value × Nat)} (h : St w0 F0 (Pool E T f ents :: L) w) : St w0 F0 (Holds E (ents.map fun q => (q.1, Seq f q.2)) :: L) w :=
  h.map fun F hp => by
    refine ⟨fun q hq => ?_, (Pool E T f ents).lt hp⟩
    obtain ⟨cf, kf, h1, h2⟩ := hp
    obtain ⟨q0, hq0, rfl⟩ := List.mem_map.1 hq
    rcases h2 q0 hq0 with ⟨e1, e2⟩ | ⟨g, hg, e1, e2⟩
    · dsimp only
      rw [e1, e2]
      exact ⟨none, 0, rfl, Nat.le_refl _, by decide, .inl rfl⟩
    · obtain ⟨_, cur, hb, h3, h4, h5, h6⟩ := h1 g hg
      rw [Seq.len] at h3
      refine ⟨some ⟨g, 0, none⟩, cf g, by rw [Seq.len]; exact e1, by rw [Seq.len]; omega, h4, .inr ⟨g, 0, hg, rfl, fun i x hx j u hu => ?_⟩⟩
      obtain ⟨hi, rfl⟩ := Seq.get_some hx
      rw [blk_cell hb, Nat.zero_add]
      exact h6 i _ (Seq.get (by omega)) j u hu
theorem St.holds_join {a b : List (Value × List X)} (h : St w0 F0 (Holds E a :: Holds E b :: L) w) : St w0 F0 (Holds E (a ++ b) :: L) w := by
  obtain ⟨F, ⟨F1, F2, h1, ⟨G1, G2, h2, h3, g3, g4⟩, f3, f4⟩, r⟩ := h
  refine ⟨F, ⟨fun x => F1 x ∨ G1 x, G2, ⟨fun q hq => ?_, fun b hb => hb.elim (h1.2 b) (h2.2 b)⟩, h3, fun x hx hg => ?_, fun x hx => ?_⟩, r⟩
  · rcases List.mem_append.1 hq with hq | hq
    · exact (h1.1 q hq).mono fun _ => .inl
    · exact (h2.1 q hq).mono fun _ => .inr
  · rcases hx with hx | hx
    · exact f3 x hx (g4 x (.inr hg))
    · exact g3 x hx hg
  · rcases hx with (hx | hx) | hx
    · exact f4 x (.inl hx)
    · exact f4 x (.inr (g4 x (.inl hx)))
    · exact f4 x (.inr (g4 x (.inr hx)))
theorem St.rdHolds {ents : List (Value × List X)} {v : Value} {xs : List X} (h : St w0 F0 L w) (hp : Pull L (Holds E ents) L') (hm : (v, xs) ∈ ents) : Rd E w v xs := by
  obtain ⟨F, h1, _⟩ := h.get hp
  exact (h1 _ hm).rd
/-- A row given up for reading. -/
theorem St.rowV_holds {v : Value} {xs : List X} (h : St w0 F0 (RowV E T v xs :: L) w) : St w0 F0 (Holds E [(v, xs)] :: L) w :=
  h.map fun F hp => by
    refine ⟨fun q hq => ?_, (RowV E T v xs).lt hp⟩
    rw [List.mem_singleton.1 hq]
    rcases hp with ⟨rfl, rfl, h3⟩ | ⟨g, cap, rfl, h1, cur, hb, h3, h4, h5, h6⟩
    · exact ⟨none, 0, rfl, Nat.le_refl _, by decide, .inl rfl⟩
    · exact ⟨_, cap, rfl, h3, h4, .inr ⟨g, 0, (h1 g).2 rfl, rfl, fun i x hx j u hu => by rw [blk_cell hb, Nat.zero_add]; exact h6 i x hx j u hu⟩⟩
end
section
variable {P : Program} {n : Nat} {ds : List Deferred} {ops : Array Oper} {ev wk : Nat → Bool} {K : Env → (World → Prop) → Prop} {r : List Oper} {o : Oper} {k : Nat} {e : Env} {w0 : World} {F0 : Nat → Prop} {L L' : List Asn} {E : Elem X} {T : Nat}
/-- A load out of a list that was handed out. -/
theorem h_holdLoad {ents : List (Value × List X)} {t g off i j len cap : Nat} {xs : List X} {x : Operand} {d : TypeDesc} {y : X} {v : Value} (ho : o.op = .load t x) (hp : Pull L (Holds E ents) L') (hm : (.slice (some ⟨g, off, none⟩) len cap, xs) ∈ ents) (hx : e.op x = some (.pointer (some ⟨g, off + i * E.sz + j, none⟩))) (hu : P.underlying t = some d) (hna : aggD d = false)
    (hi : xs[i]? = some y) (hv : nth (E.enc y) j = some v) {dd : Nat} (hdst : o.dst = some dd) (hd : okD n (some dd) = true) (h : HX P n ds ops ev wk K r (k + 1) ((dd, v) :: e) (St w0 F0 L)) : HX1 P n ds ops ev wk K o r k e (St w0 F0 L) :=
  hx1_read (by rw [ho]; rfl) (by rw [ho]; rfl) hdst hd (fun a w ha hC => by
    obtain ⟨a0, c0, e1, _, _, h4⟩ := hC.rdHolds hp hm
    injection e1 with e1 _ _
    rcases h4 with h4 | ⟨g', off', e2, hc⟩
    · rw [h4] at hi; cases hi
    · rw [← e1] at e2
      injection e2 with e2
      injection e2 with e2 e3
      subst e2 e3
      simp [execOp, ho, ha.eval hx, run_load1 hu hna (hc i y hi j v (by rw [← nth_eq]; exact hv))]) h
theorem h_holdLoad0 {ents : List (Value × List X)} {t g off i len cap : Nat} {xs : List X} {x : Operand} {d : TypeDesc} {y : X} {v : Value} (ho : o.op = .load t x) (hp : Pull L (Holds E ents) L') (hm : (.slice (some ⟨g, off, none⟩) len cap, xs) ∈ ents) (hx : e.op x = some (.pointer (some ⟨g, off + i * E.sz, none⟩))) (hu : P.underlying t = some d) (hna : aggD d = false)
    (hi : xs[i]? = some y) (hv : nth (E.enc y) 0 = some v) {dd : Nat} (hdst : o.dst = some dd) (hd : okD n (some dd) = true) (h : HX P n ds ops ev wk K r (k + 1) ((dd, v) :: e) (St w0 F0 L)) : HX1 P n ds ops ev wk K o r k e (St w0 F0 L) :=
  h_holdLoad (j := 0) ho hp hm hx hu hna hi hv hdst hd h
/-- What is known of a slice that was handed out. -/
theorem St.hold_shape {ents : List (Value × List X)} {v : Value} {xs : List X} {w : World} (h : St w0 F0 L w) (hp : Pull L (Holds E ents) L') (hm : (v, xs) ∈ ents) : ∃ a cap, v = .slice a xs.length cap ∧ xs.length ≤ cap ∧ cap ≤ maxLen ∧ (xs = [] ∨ ∃ g off, a = some ⟨g, off, none⟩) := by
  obtain ⟨a, cap, h1, h2, h3, h4⟩ := h.rdHolds hp hm
  exact ⟨a, cap, h1, h2, h3, h4.imp id fun ⟨g, off, e, _⟩ => ⟨g, off, e⟩⟩

/-- append(s, ..), s one of the pool, with what f says: one more of the pool. -/
theorem h_poolAppend {f : Nat → X} {ents : List (Value × Nat)} {x y : Operand} {t b l m c by_ : Nat} {zv : Value} {v : Value} {cs : Array Value} {bt : Nat} {fz : Nat × Nat} (hev : ev k = true) (hwk : wk k = false)
    (ho : o.op = .call { callee := .builtin .append, args := #[x, y], argTypes := #[t, t] }) (hx : e.op x = some v) (hy : e.op y = some (.slice (some ⟨b, 0, none⟩) m c)) (hu : P.underlying t = some (.slice T)) (hi : ∃ i, P.info? T = some i ∧ i.size = E.sz ∧ i.bytes = by_ ∧ i.zero = some zv) (hzv : zv.cells.size = E.sz)
    (hp : Pulls L [Pool E T f ents, Blk b (.cells cs bt fz)] L') (hmem : (v, l) ∈ ents) (hm0 : Nat.beq m 0 = false) (hcs : ∀ i, i < m → ∀ j u, (E.enc (f (l + i)))[j]? = some u → cs[i * E.sz + j]? = some u)
    (h63 : l + m ≤ maxLen) (hbytes : (l + m) * by_ ≤ 140737488355328) {dd : Nat} (hdst : o.dst = some dd) (hd : okD n (some dd) = true)
    (h : ∀ v', HX P n ds ops ev wk K r (k + 1) ((dd, v') :: e) (St w0 F0 (Pool E T f (ents ++ [(v', l + m)]) :: Blk b (.cells cs bt fz) :: L'))) : HX1 P n ds ops ev wk K o r k e (St w0 F0 L) :=
  hx1_event hev (fun a w ha hC => by
    have hC' : St w0 F0 (Pool E T f ents :: (Blk b (.cells cs bt fz) :: L')) w := hC.perm hp.perm
    have hblk : w.heap[b]? = some (.cells cs bt fz) := by
      obtain ⟨F, _, hb⟩ := hC'.get (.tail .head)
      exact hb
    obtain ⟨F1, hpool, hput⟩ := hC'.split1
    have hm1 : m ≠ 0 := by intro e0; subst e0; cases hm0
    obtain ⟨i, i1, i2, i3, i4⟩ := hi
    obtain ⟨news, hnews⟩ : ∃ news, news = (Seq (fun i => f (l + i)) m).flatMap E.enc := ⟨_, rfl⟩
    have hnl : news.length = m * E.sz := by rw [hnews, enc_len, Seq.len]
    have hat : ∀ i, i < m → ∀ j u, (E.enc (f (l + i)))[j]? = some u → news[i * E.sz + j]? = some u := fun i hi j u hj => by
      rw [hnews]; exact enc_at E _ i _ (Seq.get hi) j u hj
    have hnc : ∀ j u, news[j]? = some u → w.cell? ((⟨b, 0, none⟩ : Addr).add j) = some u := fun j u hj => by
      rw [hnews] at hj
      obtain ⟨i, q, j', h1, h2, rfl⟩ := enc_of E _ _ _ hj
      obtain ⟨h3, rfl⟩ := Seq.get_some h1
      rw [add_lit, blk_cell hblk, Nat.zero_add]
      exact hcs i h3 j' u h2
    have h1c : ∀ u ∈ news, u.oneCell' = true := fun u hu => by
      rw [hnews] at hu
      obtain ⟨q, _, hq⟩ := List.mem_flatMap.1 hu
      exact E.one q u hq
    suffices hs : ∃ v' w', (Builtin.append_ #[t, t] o.type #[v, .slice (some ⟨b, 0, none⟩) m c]).run P w = .ok v' w' ∧ St w F1 [Pool E T f (ents ++ [(v', l + m)])] w' by
      obtain ⟨v', w', hrun, hst⟩ := hs
      unfold Oper.wp
      have : (execOp a.eval o).run P w = .ok (.value v') w' := by
        simp [execOp, ho, resolve, invoke, builtin, ha.eval hx, ha.eval hy, hrun]
      rw [this]
      exact ⟨_, _, hput w' _ hst, (fun h => by rw [hwk] at h; cases h), by rw [hdst]; exact ha.put hd v', h v'⟩
    have hF1 := (Pool E T f ents).lt hpool
    obtain ⟨cf, kf, hrows, hents⟩ := hpool
    rcases hents _ hmem with ⟨e1, e2⟩ | ⟨g, hg, e1, hle⟩
    · dsimp only at e1 e2
      subst e1 e2
      obtain ⟨v', w', hrun, hown', hgr, hnil⟩ := run_append_own (P := P) (w := w) 0 t o.type T i zv E.sz by_ hu i1 i4 i2 i3 hzv E.pos (.slice none 0 0) 0 [] (World.ownsRow_nil _ _ _ _) ⟨b, 0, none⟩ m c news hnl hnc h1c h63 hbytes (Nat.zero_le _)
      refine ⟨v', w', hrun, ?_⟩
      rw [Nat.zero_add, List.nil_append] at hown'
      have hown2 : w'.ownsRow 0 T E.sz v' (Seq f m).length news := by rw [Seq.len]; exact hown'
      have hrow := RowV.of_owns (E := E) (T := T) (xs := Seq f m) hown2 (fun i q hq j u hj => by
        obtain ⟨h3, rfl⟩ := Seq.get_some hq
        exact hat i h3 j u (by rw [Nat.zero_add]; exact hj))
      have hblk2 := append_block (P := P) hu i1 i4 i2 i3 hzv E.pos (World.ownsRow_nil _ _ _ _) hnl hnc h1c h63 hbytes hrun
      rcases hrow with ⟨e3, _, _⟩ | ⟨g, cap, rfl, hr⟩
      · exact absurd (hnil.1 e3).2 hm1
      · have hnew : w.heap.size ≤ g := by
          rcases hblk2 g rfl with h | h
          · cases h
          · exact h
        have hbut : But w w' nowhere := ⟨hgr.os, hgr.tape, hgr.output, hgr.size, fun j hj _ => hgr.block j hj (fun e => by cases e)⟩
        refine st_one (G := fun x => F1 x ∨ x = g) ?_ ⟨hbut.os, hbut.tape, hbut.output, hbut.size, fun j hj _ => hbut.blk j hj id⟩ (fun x hx => hx.imp id fun e => by omega)
        refine ⟨fun x => if x = g then cap else cf x, fun x => if x = g then m else kf x, fun x hx => ?_, fun q hq => ?_⟩
        · dsimp only
          by_cases hxg : x = g
          · subst hxg
            rw [if_pos rfl, if_pos rfl]
            exact Row.at hr
          · rw [if_neg hxg, if_neg hxg]
            have hxF := hx.resolve_right hxg
            exact (Row E T x (cf x) (Seq f (kf x))).loc (hrows x hxF) (fun y hy => by subst hy; exact hbut.blk y (hF1 y hxF) id)
        · rcases List.mem_append.1 hq with hq | hq
          · refine (hents q hq).imp id ?_
            rintro ⟨g', h1, h2, h3⟩
            have hne : g' ≠ g := fun e0 => by have := hF1 g' h1; omega
            exact ⟨g', .inl h1, by dsimp only; rw [if_neg hne]; exact h2, by dsimp only; rw [if_neg hne]; exact h3⟩
          · rw [List.mem_singleton.1 hq]
            refine .inr ⟨g, .inr rfl, ?_, ?_⟩
            · dsimp only; rw [if_pos rfl, Seq.len, Nat.zero_add]
            · dsimp only; rw [if_pos rfl]; omega
    · dsimp only at e1 hle
      obtain ⟨_, cur, hb, h3, h4, h5, h6⟩ := id (hrows g hg)
      rw [Seq.len] at h3
      subst e1
      have hgs := hF1 g hg
      by_cases hroom : l + m ≤ cf g
      · have hfit : l * i.size + news.length ≤ cur.size := by rw [hnl, i2, h5, ← Nat.add_mul]; exact Nat.mul_le_mul_right _ hroom
        have hrun := run_append_room (P := P) w t o.type T i hu i1 g l (cf g) cur hb ⟨b, 0, none⟩ m c news (by rw [hnl, i2]) hnc h1c hroom hfit
        refine ⟨_, _, hrun, ?_⟩
        have hcur : cur.toList.length = cf g * E.sz := by simpa using h5
        have hll : l * E.sz + m * E.sz ≤ cf g * E.sz := by rw [← Nat.add_mul]; exact Nat.mul_le_mul_right _ hroom
        refine st_one (G := F1) ?_ ⟨rfl, rfl, rfl, by simp, fun j hj hn => setRow_other _ _ _ _ (fun e0 => hn (by rw [e0]; exact hg))⟩ (fun x hx => .inl hx)
        refine ⟨cf, fun x => if x = g then max (kf g) (l + m) else kf x, fun x hx => ?_, fun q hq => ?_⟩
        · dsimp only
          by_cases hxg : x = g
          · subst hxg
            rw [if_pos rfl]
            refine ⟨fun _ => Iff.rfl, _, setRow_heap _ _ _ _ _ _ hb, by rw [Seq.len]; omega, h4, ?_, fun i' q hq j u hj => ?_⟩
            · simp only [List.size_toArray, List.length_append, List.length_take, List.length_drop, hnl, i2, hcur]
              omega
            · obtain ⟨hi', rfl⟩ := Seq.get_some hq
              have hjs : j < E.sz := by
                have := (List.getElem?_eq_some_iff.1 hj).1
                rwa [E.len] at this
              simp only [List.getElem?_toArray, i2]
              rw [List.append_assoc]
              have htl : (cur.toList.take (l * E.sz)).length = l * E.sz := by rw [List.length_take, hcur]; omega
              by_cases c1 : i' < l
              · have := row_lt (sz := E.sz) c1 hjs
                rw [List.getElem?_append_left (by rw [htl]; exact this), List.getElem?_take_of_lt this]
                simpa using h6 i' _ (Seq.get (by omega)) j u hj
              · rw [List.getElem?_append_right (by rw [htl]; have := Nat.mul_le_mul_right E.sz (Nat.le_of_not_lt c1); omega), htl]
                obtain ⟨d, rfl⟩ := Nat.exists_eq_add_of_le (Nat.le_of_not_lt c1)
                rw [show (l + d) * E.sz + j - l * E.sz = d * E.sz + j by rw [Nat.add_mul]; omega]
                by_cases c2 : d < m
                · rw [List.getElem?_append_left (by rw [hnl]; exact row_lt c2 hjs)]
                  exact hat d c2 j u hj
                · have hmd := Nat.mul_le_mul_right E.sz (Nat.le_of_not_lt c2)
                  rw [List.getElem?_append_right (by rw [hnl]; omega), hnl, List.getElem?_drop]
                  rw [show l * E.sz + m * E.sz + (d * E.sz + j - m * E.sz) = (l + d) * E.sz + j by rw [Nat.add_mul]; omega]
                  simpa using h6 (l + d) _ (Seq.get (by omega)) j u hj
          · rw [if_neg hxg]
            exact (Row E T x (cf x) (Seq f (kf x))).loc (hrows x hx) (fun y hy => by subst hy; exact setRow_other _ _ _ _ hxg)
        · rcases List.mem_append.1 hq with hq | hq
          · refine (hents q hq).imp id ?_
            rintro ⟨g', h1, h2, h3⟩
            refine ⟨g', h1, h2, ?_⟩
            dsimp only
            split
            · rename_i e0
              subst e0
              omega
            · exact h3
          · rw [List.mem_singleton.1 hq]
            exact .inr ⟨g, hg, rfl, by dsimp only; rw [if_pos rfl]; omega⟩
      · obtain ⟨olds, hold⟩ : ∃ olds, olds = (Seq f l).flatMap E.enc := ⟨_, rfl⟩
        have hol : olds.length = l * E.sz := by rw [hold, enc_len, Seq.len]
        have holds : ∀ j u, olds[j]? = some u → w.cell? ((⟨g, 0, none⟩ : Addr).add j) = some u := fun j u hj => by
          rw [hold] at hj
          obtain ⟨i', q, j', g1, g2, rfl⟩ := enc_of E _ _ _ hj
          obtain ⟨g3, rfl⟩ := Seq.get_some g1
          rw [add_lit, blk_cell hb, Nat.zero_add]
          exact h6 i' _ (Seq.get (by omega)) j' u g2
        have hr := run_append_grow (P := P) w t o.type T i zv hu i1 i4 ⟨g, 0, none⟩ l (cf g) olds (by rw [hol, i2]) holds ⟨b, 0, none⟩ m c news (by rw [hnl, i2]) hnc (by omega) (by simp only [maxLen] at h63; omega) (growslice_fits (by omega) (by rw [i3]; exact hbytes))
        refine ⟨_, _, hr, ?_⟩
        have hbut : But w (w.drew.alloc (.cells (olds.toArray ++ news.toArray ++ Builtin.zeroCells zv.cells (grownCap w (l + m) (cf g) T - (l + m))) T)) nowhere := ⟨rfl, rfl, rfl, by simp, fun j hj _ => heap_alloc_old w.drew _ hj⟩
        have hge := grownCap_ge w (l + m) (cf g) T
        have hcm := grownCap_le_maxLen w (l + m) (cf g) T h63
        refine st_one (G := fun x => F1 x ∨ x = w.heap.size) ?_ ⟨hbut.os, hbut.tape, hbut.output, hbut.size, fun j hj _ => hbut.blk j hj id⟩ (fun x hx => hx.imp id fun e => by omega)
        refine ⟨fun x => if x = w.heap.size then grownCap w (l + m) (cf g) T else cf x, fun x => if x = w.heap.size then l + m else kf x, fun x hx => ?_, fun q hq => ?_⟩
        · dsimp only
          by_cases hxg : x = w.heap.size
          · subst hxg
            rw [if_pos rfl, if_pos rfl]
            refine ⟨fun _ => Iff.rfl, _, heap_alloc_new w.drew _, by rw [Seq.len]; exact hge, hcm, ?_, fun i' q hq j u hj => ?_⟩
            · simp only [Array.size_append, List.size_toArray, size_zeroCells, hzv, hol, hnl, ← Nat.add_mul]
              congr 1
              omega
            · obtain ⟨hi', rfl⟩ := Seq.get_some hq
              have hjs : j < E.sz := by
                have := (List.getElem?_eq_some_iff.1 hj).1
                rwa [E.len] at this
              have hlt : i' * E.sz + j < olds.length + news.length := by rw [hol, hnl, ← Nat.add_mul]; exact row_lt hi' hjs
              rw [Array.getElem?_append_left (by simpa using hlt)]
              rw [show olds.toArray ++ news.toArray = (olds ++ news).toArray by simp, List.getElem?_toArray]
              by_cases c1 : i' < l
              · rw [List.getElem?_append_left (by rw [hol]; exact row_lt c1 hjs), hold]
                exact enc_at E _ i' _ (Seq.get c1) j u hj
              · obtain ⟨d, rfl⟩ := Nat.exists_eq_add_of_le (Nat.le_of_not_lt c1)
                rw [List.getElem?_append_right (by rw [hol, Nat.add_mul]; omega), hol, show (l + d) * E.sz + j - l * E.sz = d * E.sz + j by rw [Nat.add_mul]; omega]
                exact hat d (by omega) j u hj
          · rw [if_neg hxg, if_neg hxg]
            have hxF := hx.resolve_right hxg
            exact (Row E T x (cf x) (Seq f (kf x))).loc (hrows x hxF) (fun y hy => by subst hy; exact hbut.blk y (hF1 y hxF) id)
        · rcases List.mem_append.1 hq with hq | hq
          · refine (hents q hq).imp id ?_
            rintro ⟨g', h1, h2, h3⟩
            have hne : g' ≠ w.heap.size := fun e0 => by have := hF1 g' h1; omega
            exact ⟨g', .inl h1, by dsimp only; rw [if_neg hne]; exact h2, by dsimp only; rw [if_neg hne]; exact h3⟩
          · rw [List.mem_singleton.1 hq]
            refine .inr ⟨w.heap.size, .inr rfl, ?_, ?_⟩
            · dsimp only; rw [if_pos rfl]
            · dsimp only; rw [if_pos rfl]; exact Nat.le_refl _)
theorem St.pool_sub {E : Elem X} {T : Nat} {f : Nat → X} {ents ents' : List (Value × Nat)} {w0 : World} {F0 : Nat → Prop} {L : List Asn} {w : World} (hs : ∀ q ∈ ents', q ∈ ents) (h : St w0 F0 (Pool E T f ents :: L) w) : St w0 F0 (Pool E T f ents' :: L) w :=
  h.map (A := Pool E T f ents) (B := Pool E T f ents') fun F hp => by
    obtain ⟨cf, kf, h1, h2⟩ := hp
    exact ⟨cf, kf, h1, fun q hq => h2 q (hs q hq)⟩
theorem pool_cs (E : Elem X) {f : Nat → X} {l m : Nat} (ys : List X) (h : ∀ i, i < m → ys[i]? = some (f (l + i))) : ∀ i, i < m → ∀ j u, (E.enc (f (l + i)))[j]? = some u → (ys.flatMap E.enc).toArray[i * E.sz + j]? = some u :=
  fun i hi j u hj => flat_row E ys i _ (h i hi) j u hj
theorem pool_const (E : Elem X) (x : X) (m : Nat) : ∀ i, i < m → ∀ j u, (E.enc x)[j]? = some u → ((List.replicate m x).flatMap E.enc).toArray[i * E.sz + j]? = some u :=
  fun i hi j u hj => flat_row E (List.replicate m x) i x (by simp [hi]) j u hj
section
variable {P : Program} {n : Nat} {ds : List Deferred} {ops : Array Oper} {ev wk : Nat → Bool} {K : Env → (World → Prop) → Prop} {r : List Oper} {o : Oper} {k : Nat} {e : Env} {w0 : World} {F0 : Nat → Prop} {L L' : List Asn} {E : Elem X} {T g cap : Nat} {xs : List X}
/-- An element of one cell. -/
theorem h_rowLoad1 {t i : Nat} {x : Operand} {d : TypeDesc} {y : X} {v : Value} (ho : o.op = .load t x) (hp : Pull L (Row E T g cap xs) L') (hx : e.op x = some (.pointer (some ⟨g, i * E.sz, none⟩))) (hu : P.underlying t = some d) (hna : aggD d = false)
    (hi : xs[i]? = some y) (hv : nth (E.enc y) 0 = some v) {dd : Nat} (hdst : o.dst = some dd) (hd : okD n (some dd) = true) (h : HX P n ds ops ev wk K r (k + 1) ((dd, v) :: e) (St w0 F0 L)) : HX1 P n ds ops ev wk K o r k e (St w0 F0 L) :=
  h_rowLoad (j := 0) ho hp hx hu hna hi hv hdst hd h
end
/-- The first i of a list have become x. -/
def filled (x : X) (xs : List X) (i : Nat) : List X := List.replicate i x ++ xs.drop i
theorem filled_len {x : X} {xs : List X} {i : Nat} (h : i ≤ xs.length) : (filled x xs i).length = xs.length := by simp [filled]; omega
theorem filled_get {x : X} {xs : List X} {i : Nat} (h : i < xs.length) : (filled x xs i)[i]? = some xs[i] := by
  unfold filled
  rw [List.getElem?_append_right (by simp)]
  simp [h]
theorem filled_set {x : X} {xs : List X} {i : Nat} (h : i < xs.length) : (filled x xs i).set i x = filled x xs (i + 1) := by
  apply List.ext_getElem?
  intro j
  rw [List.getElem?_set]
  split
  · rename_i e
    subst e
    rw [if_pos (by rw [filled_len (by omega)]; omega)]
    unfold filled
    rw [List.getElem?_append_left (by simp)]
    simp
  · rename_i e
    unfold filled
    rcases Nat.lt_or_ge j i with hlt | hge
    · rw [List.getElem?_append_left (by simpa using hlt), List.getElem?_append_left (by simp; omega)]
      simp [hlt, show j < i + 1 by omega]
    · rw [List.getElem?_append_right (by simpa using hge), List.getElem?_append_right (by simp; omega)]
      simp
      congr 1
      omega
theorem filled_zero {x : X} {xs : List X} : filled x xs 0 = xs := rfl
theorem filled_all {x : X} {xs : List X} {i : Nat} (h : xs.length ≤ i) (h2 : i ≤ xs.length) : filled x xs i = Seq (fun _ => x) xs.length := by
  have : i = xs.length := by omega
  subst this
  simp [filled, Seq.const]
theorem hq_know {n : Nat} {ds : List Deferred} {Q : Exit → Act → World → Prop} {x : Exit} {e : Env} {C : World → Prop} {φ : Prop} (hk : ∀ w, C w → φ) (h : φ → HQ n ds Q x e C) : HQ n ds Q x e C := ⟨fun a w ha hC => (h (hk w hC)).out a w ha hC⟩
/-- A slice as an element. -/
structure SlV where
  a : Option Addr
  len : Nat
  cap : Nat
def SlV.v (s : SlV) : Value := .slice s.a s.len s.cap
def slE : Elem SlV where
  sz := 1
  pos := by decide
  enc s := [s.v]
  len _ := rfl
  one s v hv := by
    simp at hv
    subst hv
    rfl
end
end Go.Proofs.Ytbelfaoolnijiaa
namespace Go.Proofs.Ytbelfaoolnijiaa
open Go Go.Proofs Go.ChangeShapes Go.WideShapes Go.ChangeAt Go.RowKit
section
variable {X : Type} {H : Type} {enc : TypeId × Value → H} {P : Program} {W : World} {base : Nat} {spare : Nat → Bool} {held : Bool} {t e : TypeId} {v : Value} {d : DataW H} {ps : List MemPlace} {r : Reach} {b0 : Nat}
/-- The reader of a slice that is handed in: what it reads as, and its data element by element. -/
theorem rd_gen (E : Elem X) (hu : P.underlying t = some (.slice e)) (ce : P.cellsOf e = E.sz) (hval : Value.okWide P W r b0 t v) (h : DataW.Trod enc P W base spare held t v d ps)
    (read : ∀ n cs x, DataW.trod enc P W base spare held n e cs = some x → ∃ q, E.enc q = cs) :
    ∃ xs : List X, Rd E W v xs ∧ ((d = .nil ∧ xs = []) ∨ ∃ (D : Nat → DataW H) (rest : List (DataW H)), d = .slice ((List.range xs.length).map D) rest ∧ ∀ i q, xs[i]? = some q → ∃ n pl, DataW.trod enc P W base spare held n e (E.enc q) = some (D i, pl)) := by
  obtain ⟨a, len, cap, rfl⟩ := okWide_slice hu hval
  obtain ⟨fuel, hf⟩ := h
  rcases Go.Deep.open_slice hu hf with ⟨hcs, hx⟩ | ⟨x, l, c, m, n, D, Pl, hcs, _, hl, hm, hmm, hx, hc⟩
  · simp [Value.cells] at hcs
    obtain ⟨rfl, rfl, rfl⟩ := hcs
    exact ⟨[], ⟨none, 0, rfl, Nat.le_refl _, by decide, .inl rfl⟩, .inl ⟨(Prod.mk.inj hx).1, rfl⟩⟩
  · simp [Value.cells] at hcs
    obtain ⟨rfl, rfl, rfl⟩ := hcs
    have hlm : len ≤ m := by rw [hmm]; split <;> omega
    obtain ⟨hx1, _⟩ := Prod.mk.inj hx
    have each : ∀ i : Fin len, ∃ q : X, (∀ j u, (E.enc q)[j]? = some u → W.cell? ((x.add (i.1 * E.sz)).add j) = some u) ∧ DataW.trod enc P W base spare held n e (E.enc q) = some (D i.1, Pl i.1) := fun i => by
      obtain ⟨cs', h1, h2⟩ := hc i.1 (by omega)
      obtain ⟨q, rfl⟩ := read _ _ _ h2
      rw [ce] at h1
      obtain ⟨_, hlen, hcell⟩ := World.cells?_some h1
      refine ⟨q, fun j u hj => ?_, h2⟩
      have hj' : j < E.sz := by
        have := (List.getElem?_eq_some_iff.1 hj).1
        rwa [E.len] at this
      have := hcell j hj'
      rw [this, hj]
    obtain ⟨q, hq⟩ := Classical.axiomOfChoice each
    by_cases h0 : len = 0
    · subst h0
      refine ⟨[], ⟨some x, cap, rfl, Nat.zero_le _, hm, .inl rfl⟩, .inr ⟨D, _, hx1, fun i q hq => by simp at hq⟩⟩
    · obtain ⟨g, off, sp⟩ := x
      have hsp : sp = none := by
        obtain ⟨z, hz⟩ : ∃ z : Fin len, z.1 = 0 := ⟨⟨0, Nat.pos_of_ne_zero h0⟩, rfl⟩
        obtain ⟨h1, _⟩ := hq z
        cases sp with
        | none => rfl
        | some s =>
          have hpos : 0 < (E.enc (q z)).length := by rw [E.len]; exact E.pos
          have h2 := h1 0 _ (List.getElem?_eq_getElem hpos)
          rw [hz, Nat.zero_mul] at h2
          simp [Addr.add, World.cell?] at h2
          split at h2 <;> cases h2
      subst hsp
      have hln : (List.ofFn q).length = len := List.length_ofFn
      refine ⟨List.ofFn q, ⟨some ⟨g, off, none⟩, cap, by rw [hln], by rw [hln]; exact hl, hm, .inr ⟨g, off, rfl, fun i p hi j u hj => ?_⟩⟩, .inr ⟨D, _, by rw [hln]; exact hx1, fun i p hi => ?_⟩⟩
      · rw [List.getElem?_ofFn] at hi
        split at hi
        · rename_i hlt
          injection hi with hi
          subst hi
          have := (hq ⟨i, hlt⟩).1 j u hj
          rwa [add_lit, add_lit] at this
        · cases hi
      · rw [List.getElem?_ofFn] at hi
        split at hi
        · rename_i hlt
          injection hi with hi
          subst hi
          exact ⟨_, _, (hq ⟨i, hlt⟩).2⟩
        · cases hi
end
end Go.Proofs.Ytbelfaoolnijiaa
