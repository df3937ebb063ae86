import Derived.Test.YtjnnlfeohbidhaaDoorEngP
import Derived.Laws.StructEq
import Derived.ChangeKeysEq
namespace Go.Proofs.YtjnnlfeohbidhaaDoor
open Go

/-! ### Structs of an int and a text: compared, loaded out of an element, handed back -/
class KC (P : Program) (t : Nat) : Prop where
  guard : P.eqGuardType P.depth t = false
  out : ∀ (a b : Int) (s u : ByteArray) (w : World), (Op.equal t (.agg #[.int .i64 a, .string s]) (.agg #[.int .i64 b, .string u])).run P w = .ok (decide (a = b) && decide (s = u)) w
theorem KC.mk2 {P : Program} {t : Nat} {f0 f1 : Field} (hu : P.underlying t = some (.struct (P.fieldsOf t))) (hp : P.stoodInHeld t = false) (hf : (P.fieldsOf t).toList = [f0, f1]) (n0 : f0.name ≠ "_") (n1 : f1.name ≠ "_") (o0 : f0.offset = 0) (o1 : f1.offset = 1)
    (u0 : P.underlying f0.type = some (.int .i64)) (u1 : P.underlying f1.type = some .string) (hg : P.eqGuardType P.depth t = false) : KC P t := ⟨hg, fun a b s u w => by
  have p0 : P.plainKey f0.type = true := by simp [Program.plainKey, u0]
  have p1 : P.plainKey f1.type = true := by simp [Program.plainKey, u1]
  have hsu : (s.toList == u.toList) = decide (s = u) := by
    by_cases h : s = u
    · simp [h]
    · have : s.toList ≠ u.toList := fun e => h (by
        rw [ByteArray.toList_eq, ByteArray.toList_eq] at e
        obtain ⟨⟨x⟩⟩ := s
        obtain ⟨⟨y⟩⟩ := u
        simp at e
        rw [e])
      simp [h, this]
  have hab : (a == b) = decide (a = b) := by by_cases h : a = b <;> simp [h]
  show (Op.equalIn (9999 + 1) t _ _).run P w = _
  rw [run_equalIn_struct w 9999 t _ _ hu hp, hf]
  have e0 : ∀ (x y : Value), (part f0.type #[x, y] f0.offset).run P w = .ok x w := fun x y => by rw [o0]; exact run_part_plain w p0 rfl
  have e1 : ∀ (x y : Value), (part f1.type #[x, y] f1.offset).run P w = .ok y w := fun x y => by rw [o1]; exact run_part_plain w p1 rfl
  have q0 : (Op.equalIn 9999 f0.type (.int .i64 a) (.int .i64 b)).run P w = .ok (decide (a = b)) w := (run_equalIn_int w 9998 f0.type .i64 .i64 a b u0).trans (by rw [hab])
  have q1 : (Op.equalIn 9999 f1.type (.string s) (.string u)).run P w = .ok (decide (s = u)) w := (run_equalIn_string w 9998 f1.type s u u1).trans (by rw [hsu])
  simp only [Op.eqFields, n0, n1, ne_eq, not_false_eq_true, if_true, Sem.run_bind, e0, q0, Result.andThen_ok]
  by_cases ha : a = b
  · by_cases hs : s = u
    · simp only [ha, hs, decide_true] at q1 ⊢
      simp [e1, q1]
    · simp only [ha, hs, decide_true, decide_false] at q1 ⊢
      simp [e1, q1]
  · simp [ha]⟩

section
variable {X : Type} {P : Program} {n : Nat} {ds : List Deferred} {ops : Array Oper} {ev wk : Nat → Bool} {K : Env → (World → Prop) → Prop} {r : List Oper} {o : Oper} {k : Nat} {e : Env} {w0 : World} {F0 : Nat → Prop} {L L' : List Asn} {C : World → Prop} {E : Elem X} {T g cap : Nat} {xs : List X}
theorem h_eqK {t t2 : TypeId} {x y : Operand} {a b : Int} {s u : ByteArray} (ho : o.op = .binOp .eql t x y t2) (hx : e.op x = some (.agg #[.int .i64 a, .string s])) (hy : e.op y = some (.agg #[.int .i64 b, .string u]))
    (hk : KC P t)
    {dd : Nat} (hdst : o.dst = some dd) (hd : okD n (some dd) = true) (h : HX P n ds ops ev wk K r (k + 1) ((dd, .bool (decide (a = b) && decide (s = u))) :: e) C) : HX1 P n ds ops ev wk K o r k e C :=
  hx1_pure (by rw [ho]; rfl) hdst hd (fun a' w ha => by
    simp [execOp, ho, eqGuard, binOp, ha.eval hx, ha.eval hy, hk.out, hk.guard]) h
/-- Some cells of an element. -/
theorem h_rowLoadP {t i j s : Nat} {x : Operand} {d : TypeDesc} {y : X} {cs : Array Value} (ho : o.op = .load t x) (hp : Pull L (Row E T g cap xs) L') (hx : e.op x = some (.pointer (some ⟨g, i * E.sz + j, none⟩))) (hu : P.underlying t = some d) (hna : aggD d = true) (hs : SizeOf P t s)
    (hi : xs[i]? = some y) (hj : j + s ≤ E.sz) (hcs : (((E.enc y).drop j).take s).toArray = cs) {dd : Nat} (hdst : o.dst = some dd) (hd : okD n (some dd) = true) (h : HX P n ds ops ev wk K r (k + 1) ((dd, .agg cs) :: e) (St w0 F0 L)) : HX1 P n ds ops ev wk K o r k e (St w0 F0 L) :=
  hx1_read (by rw [ho]; rfl) (by rw [ho]; rfl) hdst hd (fun a w ha hC => by
    obtain ⟨F, _, cur, hb, _, _, _, hcell⟩ := hC.get hp
    have hc : ∀ l v, (((E.enc y).drop j).take s)[l]? = some v → w.cell? ((⟨g, i * E.sz + j, none⟩ : Addr).add l) = some v := fun l v hl => by
      have hls : l < s := by
        have := (List.getElem?_eq_some_iff.1 hl).1
        rw [List.length_take] at this
        omega
      have e1 : (⟨g, i * E.sz + j, none⟩ : Addr).add l = ⟨g, i * E.sz + (j + l), none⟩ := by
        unfold Addr.add
        split
        · rename_i h0; rw [h0]; rfl
        · rw [Nat.add_assoc]
      rw [e1, blk_cell hb]
      rw [List.getElem?_take_of_lt hls, List.getElem?_drop] at hl
      exact hcell i y hi (j + l) v hl
    subst hcs
    have hlen : (((E.enc y).drop j).take s).length = s := by rw [List.length_take, List.length_drop, E.len y]; omega
    simp [execOp, ho, ha.eval hx, run_loadN hu hna hs hlen hc]) h
end
section
variable {P : Program} {n : Nat} {ds : List Deferred} {ops : Array Oper} {ev wk : Nat → Bool} {K : Env → (World → Prop) → Prop} {r : List Oper} {o : Oper} {k : Nat} {e : Env} {C : World → Prop} {w0 : World} {F0 : Nat → Prop} {L L' : List Asn}
theorem h_buildSliceW {t el len size : Nat} {ps : Array (Nat × Operand)} {vs : List Value} {zv : Value} (hev : ev k = true) (ho : o.op = .buildSlice t len ps) (hu : P.underlying t = some (.slice el)) (hs : SizeOf P el size) (hz : ZeroOf P el zv) (hvs : e.elems 0 ps.toList = some vs) (hlen : Nat.beq vs.length len = true) (hsz : ∀ v ∈ vs, v.cells.size = size) (hbig : len * size ≤ 2 ^ 24)
    {dd : Nat} (hdst : o.dst = some dd) (hd : okD n (some dd) = true) (h : ∀ b, HX P n ds ops ev wk K r (k + 1) ((dd, .slice (some ⟨b, 0, none⟩) len len) :: e) (St w0 F0 (Blk b (.cells (vs.flatMap (fun v => v.cells.toList)).toArray el (0, 0)) :: L))) : HX1 P n ds ops ev wk K o r k e (St w0 F0 L) :=
  hx1_event hev (fun a w ha hC => by
    obtain ⟨e1, e2⟩ := ha.elems hvs
    have hl := Nat.eq_of_beq_eq_true hlen
    have e3 : ps.map (fun (i, x) => (i, a.eval x)) = ((vs.zipIdx 0).map (fun p => (p.2, p.1))).toArray := by
      rw [← e1]
      exact Array.ext' (by simp)
    unfold Oper.wp
    have : (execOp a.eval o).run P w = .ok (.value (.slice (some ⟨w.heap.size, 0, none⟩) len len)) (w.alloc (.cells (vs.flatMap (fun v => v.cells.toList)).toArray el (0, 0))) := by
      have hfill : ∀ (c0 : Array Value), c0.size = len * size → Instr.fill (fun i => some (i * size, size)) c0 ((vs.zipIdx 0).map (fun p => (p.2, p.1))) = some (vs.flatMap (fun v => v.cells.toList)).toArray := fun c0 hc => by
        have := fill_full (size := size) vs 0 c0 [] hsz (by simp) (by simpa [hl] using hc) (by simp)
        simpa using this
      simp only [execOp, ho, e3, Instr.buildSlice]
      have hn : ¬ (len * size > 2 ^ 24) := by omega
      by_cases h0 : len * size = 0
      · simp [run_und hu, run_size hs, h0]
        rw [hfill (Array.map (fun _ => default) (Array.range 0)) (by simp [h0])]
        simp [newRow]
      · have hf := hfill ((Array.range (len * size)).map (zv.cells[· % zv.cells.size]!)) (by simp)
        simp [run_und hu, run_size hs, hn, h0, run_zero hz] at hf ⊢
        simp [hf, newRow]
    rw [this]
    exact ⟨_, _, hC.new _, (fun _ _ hh => hh.drop), (by rw [hdst]; exact ha.put hd _), h _⟩)
/-- Where new arrays too may come ahead of what is read. -/
def wkW (ops : Array Oper) (i : Nat) : Bool := match ops[i]? with
  | some o => match o.op with
    | .box .. => true
    | .alloc .. => true
    | .makeMap .. => true
    | .buildSlice .. => true
    | _ => false
  | none => false
variable {Q : Exit → Act → World → Prop}
theorem hc_drawW {id : Nat} {l : List Oper} (hm : P.follows .mixedOrders = true) (hB : chkB l.toArray (evK l.toArray) (wkW l.toArray) = true)
    (h : HX P n ds l.toArray (evK l.toArray) (wkW l.toArray) (fun e' C' => HQ n ds Q .normal e' C') l 0 e (St w0 F0 L)) : HC P n ds (Code.region id l.toArray true) Q e (St w0 F0 L) := hc_draw hm hB h
end
section
variable {P : Program} {n : Nat} {e : Env} {w0 : World} {F0 : Nat → Prop} {L L' : List Asn}
/-- A first result that lies in a box of two cells. -/
theorem hq_retC3 {fn : Func} {x : Exit} {t t2 t3 ty b bt : Nat} {d : TypeDesc} {v1 v1' v2 v3 : Value} {fz : Nat × Nat} {post : Value → List Asn → Prop} {M : List Asn} (hx : x = .normal ∨ x = .ret) (hr : fn.results = #[.cell t ty, .tmp t2, .tmp t3])
    (hv : e.get t = some (.pointer (some ⟨b, 0, none⟩))) (hu : P.underlying ty = some d) (hna : aggD d = true) (hs : SizeOf P ty 2) (hpl : Pull L (Blk b (.cells #[v1, v1'] bt fz)) L') (hv2 : e.get t2 = some v2) (hv3 : e.get t3 = some v3) (hp : post (.tuple #[.agg #[v1, v1'], v2, v3]) M) (hst : ∀ w, St w0 F0 L w → St w0 F0 M w) :
    HQ n [] (bodyPost P fn (bodyR w0 F0 post)) x e (St w0 F0 L) := ⟨fun a w ha hC => by
  obtain ⟨F, _, hb⟩ := hC.get hpl
  have hc : ∀ j v, [v1, v1'][j]? = some v → w.cell? ((⟨b, 0, none⟩ : Addr).add j) = some v := fun j v hj => by
    have e1 : (⟨b, 0, none⟩ : Addr).add j = ⟨b, j, none⟩ := by
      unfold Addr.add
      split
      · rename_i h0; rw [h0]
      · simp
    rw [e1, blk_cell hb]
    simpa using hj
  have hld : (loadVar ty ⟨b, 0, none⟩).run P w = .ok (.agg #[v1, v1']) w := by
    have := run_loadN (P := P) (w := w) hu hna hs (vs := [v1, v1']) rfl hc
    simpa [Instr.loadAt, Instr.sureAddr] using this
  have hrun : (results fn a.tmps).run P w = .ok (.tuple #[.agg #[v1, v1'], v2, v3]) w := by simp [results, hr, ha.get _ _ hv, ha.get _ _ hv2, ha.get _ _ hv3, asAddr, hld]
  have : bodyR w0 F0 post (.returned (.tuple #[.agg #[v1, v1'], v2, v3])) w := ⟨_, M, rfl, hp, hst w hC⟩
  rcases hx with rfl | rfl
  · exact ⟨ha.defers, _, hrun, this⟩
  · exact ⟨ha.defers, _, hrun, this⟩⟩
end
end Go.Proofs.YtjnnlfeohbidhaaDoor
