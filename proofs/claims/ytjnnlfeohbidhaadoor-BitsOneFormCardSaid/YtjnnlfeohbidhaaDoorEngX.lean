import Derived.Test.YtjnnlfeohbidhaaDoorEngW
import Derived.Laws.StructEq
import Derived.ChangeKeysEq
import Derived.Defers
import Derived.Recover
namespace Go.Proofs.YtjnnlfeohbidhaaDoor
open Go

/-! ### Structs of ints: compared -/
def ints (xs : List Int) : Array Value := (xs.map (Value.int .i64)).toArray
theorem ints_size (xs : List Int) : (ints xs).size = xs.length := by simp [ints]
theorem ints_get {xs : List Int} {i : Nat} {x : Int} (h : xs[i]? = some x) : (ints xs)[i]? = some (.int .i64 x) := by simp [ints, h]
/-- Fields of one int each, from the place k on. -/
def IntFields (P : Program) : Nat → List Field → Prop
  | _, [] => True
  | k, f :: fs => f.name ≠ "_" ∧ f.offset = k ∧ P.underlying f.type = some (.int .i64) ∧ IntFields P (k + 1) fs
theorem eqFields_ints {P : Program} {w : World} {d : Nat} {gs : List Field} {xs ys : List Int} : ∀ (fs : List Field) (k : Nat), IntFields P k fs → k + fs.length ≤ xs.length → k + fs.length ≤ ys.length →
    (Op.eqFields (d + 1) (ints xs) (ints ys) (fs ++ gs)).run P w = if (xs.drop k).take fs.length = (ys.drop k).take fs.length then (Op.eqFields (d + 1) (ints xs) (ints ys) gs).run P w else .ok false w
  | [], _, _, _, _ => by simp
  | f :: fs, k, ⟨h1, h2, h3, h4⟩, hx, hy => by
    simp only [List.length_cons] at hx hy
    have ex : xs[k]? = some xs[k] := List.getElem?_eq_getElem (by omega)
    have ey : ys[k]? = some ys[k] := List.getElem?_eq_getElem (by omega)
    have p0 : P.plainKey f.type = true := by simp [Program.plainKey, h3]
    have r1 : (part f.type (ints xs) f.offset).run P w = .ok (.int .i64 xs[k]) w := run_part_plain w p0 (by rw [h2]; exact ints_get ex)
    have r2 : (part f.type (ints ys) f.offset).run P w = .ok (.int .i64 ys[k]) w := run_part_plain w p0 (by rw [h2]; exact ints_get ey)
    have r3 := run_equalIn_int (P := P) w d f.type .i64 .i64 xs[k] ys[k] h3
    have ih := eqFields_ints (w := w) (d := d) (gs := gs) (xs := xs) (ys := ys) fs (k + 1) h4 (by omega) (by omega)
    have dx : (xs.drop k).take (fs.length + 1) = xs[k] :: (xs.drop (k + 1)).take fs.length := by rw [List.drop_eq_getElem_cons (by omega), List.take_succ_cons]
    have dy : (ys.drop k).take (fs.length + 1) = ys[k] :: (ys.drop (k + 1)).take fs.length := by rw [List.drop_eq_getElem_cons (by omega), List.take_succ_cons]
    rw [List.cons_append]
    simp only [Op.eqFields, h1, ne_eq, not_false_eq_true, if_true, Sem.run_bind, r1, r2, r3, Result.andThen_ok, List.length_cons, dx, dy]
    by_cases he : xs[k] = ys[k]
    · simp [he, ih]
    · simp [he]
/-- A struct type whose n cells are ints. -/
class QC (P : Program) (t n : Nat) : Prop where
  guard : P.eqGuardType P.depth t = false
  out : ∀ (xs ys : List Int) (w : World), xs.length = n → ys.length = n → (Op.equalIn 10000 t (.agg (ints xs)) (.agg (ints ys))).run P w = .ok (decide (xs = ys)) w
theorem QC.flat {P : Program} {t n : Nat} (hg : P.eqGuardType P.depth t = false) (hu : P.underlying t = some (.struct (P.fieldsOf t))) (hp : P.stoodInHeld t = false) (hn : (P.fieldsOf t).toList.length = n) (hf : IntFields P 0 (P.fieldsOf t).toList) : QC P t n := ⟨hg, fun xs ys w hx hy => by
  rw [run_equalIn_struct w 9999 t _ _ hu hp]
  have := eqFields_ints (w := w) (d := 9998) (gs := []) (xs := xs) (ys := ys) _ 0 hf (by omega) (by omega)
  rw [List.append_nil] at this
  rw [this, List.drop_zero, List.drop_zero, hn, List.take_of_length_le (by omega), List.take_of_length_le (by omega)]
  by_cases h : xs = ys <;> simp [h, Op.eqFields]⟩
/-- .. whose last field is such a struct, of ints too. -/
theorem QC.last {P : Program} {t n m : Nat} {fs : List Field} {f : Field} (hg : P.eqGuardType P.depth t = false) (hu : P.underlying t = some (.struct (P.fieldsOf t))) (hp : P.stoodInHeld t = false) (he : (P.fieldsOf t).toList = fs ++ [f]) (hn : fs.length = n) (hf : IntFields P 0 fs)
    (h1 : f.name ≠ "_") (h2 : f.offset = n) (hs : SizeOf P f.type m) (hu2 : P.underlying f.type = some (.struct (P.fieldsOf f.type))) (hp2 : P.stoodInHeld f.type = false) (hn2 : (P.fieldsOf f.type).toList.length = m) (hf2 : IntFields P 0 (P.fieldsOf f.type).toList) : QC P t (n + m) := ⟨hg, fun xs ys w hx hy => by
  rw [run_equalIn_struct w 9999 t _ _ hu hp, he]
  have := eqFields_ints (w := w) (d := 9998) (gs := [f]) (xs := xs) (ys := ys) fs 0 hf (by omega) (by omega)
  rw [this, List.drop_zero, List.drop_zero, hn]
  have hpart : ∀ (zs : List Int), zs.length = n + m → (part f.type (ints zs) f.offset).run P w = .ok (.agg (ints (zs.drop n))) w := fun zs hz => by
    have e1 : (ints zs).extract f.offset (f.offset + m) = ints (zs.drop n) := by
      rw [h2]
      apply Array.ext'
      simp only [ints, Array.toList_extract, List.extract]
      rw [List.map_drop, List.take_of_length_le (by simp; omega)]
    simp [part, run_isAgg hu2, aggD, run_size hs, e1]
  have hin : (Op.equalIn (9997 + 1 + 1) f.type (.agg (ints (xs.drop n))) (.agg (ints (ys.drop n)))).run P w = .ok (decide (xs.drop n = ys.drop n)) w := by
    rw [run_equalIn_struct w 9998 f.type _ _ hu2 hp2]
    have := eqFields_ints (w := w) (d := 9997) (gs := []) (xs := xs.drop n) (ys := ys.drop n) _ 0 hf2 (by rw [List.length_drop]; omega) (by rw [List.length_drop]; omega)
    rw [List.append_nil] at this
    rw [this, List.drop_zero, List.drop_zero, hn2, List.take_of_length_le (by rw [List.length_drop]; omega), List.take_of_length_le (by rw [List.length_drop]; omega)]
    by_cases h : xs.drop n = ys.drop n <;> simp [h, Op.eqFields]
  have hsplit : xs = ys ↔ xs.take n = ys.take n ∧ xs.drop n = ys.drop n := by
    constructor
    · rintro rfl; exact ⟨rfl, rfl⟩
    · rintro ⟨a, b⟩
      rw [← List.take_append_drop n xs, ← List.take_append_drop n ys, a, b]
  by_cases ha : xs.take n = ys.take n
  · simp only [ha, if_true, Op.eqFields, h1, ne_eq, not_false_eq_true, Sem.run_bind, hpart xs hx, hpart ys hy, Result.andThen_ok, hin]
    by_cases hb : xs.drop n = ys.drop n
    · simp [hb, hsplit, ha]
    · simp [hb, hsplit]
  · simp [ha, hsplit]⟩
section
variable {P : Program} {n : Nat} {ds : List Deferred} {ops : Array Oper} {ev wk : Nat → Bool} {K : Env → (World → Prop) → Prop} {r : List Oper} {o : Oper} {k : Nat} {e : Env} {C : World → Prop} {w0 : World} {F0 : Nat → Prop} {L L' : List Asn}
theorem h_eqS {op : BinOp} {t t2 m : Nat} {x y : Operand} {u1 u2 : Array Value} {v : Value} (xs ys : List Int) (ho : o.op = .binOp op t x y t2) (hx : e.op x = some (.agg u1)) (hy : e.op y = some (.agg u2)) (h1 : u1 = ints xs) (h2 : u2 = ints ys) (hq : QC P t m) (hl1 : Nat.beq xs.length m = true) (hl2 : Nat.beq ys.length m = true)
    (hv : (match op with | .eql => some (Value.bool (decide (xs = ys))) | .neq => some (.bool (decide (xs ≠ ys))) | _ => none) = some v)
    {dd : Nat} (hdst : o.dst = some dd) (hd : okD n (some dd) = true) (h : HX P n ds ops ev wk K r (k + 1) ((dd, v) :: e) C) : HX1 P n ds ops ev wk K o r k e C :=
  hx1_pure (by rw [ho]; rfl) hdst hd (fun a' w ha => by
    subst h1 h2
    have hout := hq.out xs ys w (Nat.eq_of_beq_eq_true hl1) (Nat.eq_of_beq_eq_true hl2)
    cases op <;> simp at hv <;> subst hv
    · simp only [execOp, ho, ha.eval hx, ha.eval hy, Sem.run_bind, run_eqGuard_agg w _ _ _ _ _ _ hq.guard, Result.andThen_ok, run_eql_struct, hout]
      rfl
    · simp only [execOp, ho, ha.eval hx, ha.eval hy, Sem.run_bind, run_eqGuard_agg w _ _ _ _ _ _ hq.guard, Result.andThen_ok, run_neq_struct, hout]
      by_cases h : xs = ys <;> simp [h]) h
/-- nil == nil, of an interface without methods. -/
theorem h_eqIface {t t2 : TypeId} {x : Operand} (ho : o.op = .binOp .eql t x (.const .nilIface) t2) (hx : e.op x = some .nilIface) (hu : P.underlying t = some (.interface #[]))
    {dd : Nat} (hdst : o.dst = some dd) (hd : okD n (some dd) = true) (h : HX P n ds ops ev wk K r (k + 1) ((dd, .bool true) :: e) C) : HX1 P n ds ops ev wk K o r k e C :=
  hx1_pure (by rw [ho]; rfl) hdst hd (fun a' w ha => by
    have e1 : (Op.equal t .nilIface .nilIface).run P w = .ok true w := by
      show Sem.run P (Op.equalIn (9999 + 1) t _ _) w = _
      rw [Op.equalIn]
      simp [run_und hu]
    have hy : a'.eval (.const .nilIface) = .nilIface := rfl
    simp [execOp, ho, eqGuard, binOp, ha.eval hx, hy, e1]) h
end

/-! ### Results, in slots or in cells -/
def RVal (P : Program) (e : Env) (L : List Asn) : ResultVar → Value → Prop
  | .tmp t, v => e.get t = some v
  | .cell t ty, v => ∃ (b : Nat) (cs : Array Value) (bt : TypeId) (fz : Nat × Nat) (L' : List Asn) (d : TypeDesc), e.get t = some (.pointer (some ⟨b, 0, none⟩)) ∧ Pull L (Blk b (.cells cs bt fz)) L' ∧ P.underlying ty = some d ∧ ((aggD d = true ∧ SizeOf P ty cs.size ∧ v = .agg cs) ∨ (aggD d = false ∧ cs = #[v]))
section
variable {P : Program} {n : Nat} {e : Env} {w0 : World} {F0 : Nat → Prop} {L L' : List Asn} {ds : List Deferred}
theorem rv_tmp {t : Nat} {v : Value} (h : e.get t = some v) : RVal P e L (.tmp t) v := h
theorem rv_cell {t ty b : Nat} {cs : Array Value} {bt : TypeId} {fz : Nat × Nat} {d : TypeDesc} (h : e.get t = some (.pointer (some ⟨b, 0, none⟩))) (hp : Pull L (Blk b (.cells cs bt fz)) L') (hu : P.underlying ty = some d) (hna : aggD d = true) (hs : SizeOf P ty cs.size) : RVal P e L (.cell t ty) (.agg cs) :=
  ⟨b, cs, bt, fz, L', d, h, hp, hu, .inl ⟨hna, hs, rfl⟩⟩
theorem rv_run {x : ResultVar} {v : Value} (h : RVal P e L x v) {a : Act} {w : World} (ha : Has n ds a e) (hC : St w0 F0 L w) :
    (match x with | .tmp t => Sem.run P (pure (a.tmps.getD t undef)) w | .cell t ty => Sem.run P (do loadVar ty (← asAddr (a.tmps.getD t undef))) w) = .ok v w := by
  cases x with
  | tmp t => simp [ha.get _ _ h]
  | cell t ty =>
    obtain ⟨b, cs, bt, fz, L', d, h1, hp, hu, hh⟩ := h
    obtain ⟨F, _, hb⟩ := hC.get hp
    rcases hh with ⟨hna, hs, rfl⟩ | ⟨hna, rfl⟩
    · have := run_loadN (P := P) (w := w) (a := ⟨b, 0, none⟩) (vs := cs.toList) hu hna hs (by simp) (fun j v hj => by
        rw [add_lit, blk_cell hb, Nat.zero_add]
        simpa using hj)
      simpa [ha.get _ _ h1, asAddr, Instr.loadAt, Instr.sureAddr] using this
    · have := run_load1 (P := P) (w := w) (a := ⟨b, 0, none⟩) (v := v) hu hna (by rw [blk_cell hb]; rfl)
      simpa [ha.get _ _ h1, asAddr, Instr.loadAt, Instr.sureAddr] using this
end

def rrv (tmps : Array Value) : ResultVar → Sem Value
  | .tmp t => pure (tmps.getD t undef)
  | .cell a t => do loadVar t (← asAddr (tmps.getD a undef))
theorem results_eq (fn : Func) (tmps : Array Value) : results fn tmps = (do
  let vs ← fn.results.mapM (rrv tmps)
  pure (if h : vs.size = 1 then vs[0] else .tuple vs)) := rfl
theorem rrv_run {P : Program} {n : Nat} {e : Env} {w0 : World} {F0 : Nat → Prop} {L : List Asn} {ds : List Deferred} {x : ResultVar} {v : Value} (h : RVal P e L x v) {a : Act} {w : World} (ha : Has n ds a e) (hC : St w0 F0 L w) : (rrv a.tmps x).run P w = .ok v w := by
  have := rv_run h ha hC
  cases x <;> exact this
section
variable {P : Program} {n : Nat} {ds : List Deferred} {Q : Exit → Act → World → Prop} {e : Env} {C : World → Prop} {w0 : World} {F0 : Nat → Prop} {L L' : List Asn}
theorem results1 {fn : Func} {x1 : ResultVar} {v1 : Value} (hr : fn.results = #[x1]) (h1 : RVal P e L x1 v1) {a : Act} {w : World} (ha : Has n ds a e) (hC : St w0 F0 L w) : (results fn a.tmps).run P w = .ok v1 w := by
  have r1 := rrv_run h1 ha hC
  rw [results_eq, hr]
  simp [r1]
theorem results2 {fn : Func} {x1 x2 : ResultVar} {v1 v2 : Value} (hr : fn.results = #[x1, x2]) (h1 : RVal P e L x1 v1) (h2 : RVal P e L x2 v2) {a : Act} {w : World} (ha : Has n ds a e) (hC : St w0 F0 L w) : (results fn a.tmps).run P w = .ok (.tuple #[v1, v2]) w := by
  have r1 := rrv_run h1 ha hC
  have r2 := rrv_run h2 ha hC
  rw [results_eq, hr]
  simp [r1, r2]
theorem hq_R1 {fn : Func} {x : Exit} {x1 : ResultVar} {v1 : Value} {post : Value → List Asn → Prop} {M : List Asn} (hx : x = .normal ∨ x = .ret) (hr : fn.results = #[x1]) (h1 : RVal P e L x1 v1) (hp : post v1 M) (hst : ∀ w, St w0 F0 L w → St w0 F0 M w) :
    HQ n [] (bodyPost P fn (bodyR w0 F0 post)) x e (St w0 F0 L) := ⟨fun a w ha hC => by
  have hrun := results1 hr h1 ha hC
  have : bodyR w0 F0 post (.returned v1) w := ⟨_, M, rfl, hp, hst w hC⟩
  rcases hx with rfl | rfl
  · exact ⟨ha.defers, _, hrun, this⟩
  · exact ⟨ha.defers, _, hrun, this⟩⟩
theorem hq_R2 {fn : Func} {x : Exit} {x1 x2 : ResultVar} {v1 v2 : Value} {post : Value → List Asn → Prop} {M : List Asn} (hx : x = .normal ∨ x = .ret) (hr : fn.results = #[x1, x2]) (h1 : RVal P e L x1 v1) (h2 : RVal P e L x2 v2) (hp : post (.tuple #[v1, v2]) M) (hst : ∀ w, St w0 F0 L w → St w0 F0 M w) :
    HQ n [] (bodyPost P fn (bodyR w0 F0 post)) x e (St w0 F0 L) := ⟨fun a w ha hC => by
  have hrun := results2 hr h1 h2 ha hC
  have : bodyR w0 F0 post (.returned (.tuple #[v1, v2])) w := ⟨_, M, rfl, hp, hst w hC⟩
  rcases hx with rfl | rfl
  · exact ⟨ha.defers, _, hrun, this⟩
  · exact ⟨ha.defers, _, hrun, this⟩⟩

/-! ### Deferred calls -/
theorem tx_append {ops : Array Oper} {ev wk : Nat → Bool} {K : Act → (World → Prop) → Prop} {l2 : List Oper} : ∀ (l1 : List Oper) (k : Nat) (a : Act) (C : World → Prop), TX P ops ev wk (fun a' C' => TX P ops ev wk K l2 (k + l1.length) a' C') l1 k a C → TX P ops ev wk K (l1 ++ l2) k a C
  | [], _, _, _, h => h
  | o :: l1, k, a, C, h => by
    have e1 : k + (o :: l1).length = k + 1 + l1.length := by rw [List.length_cons]; omega
    simp only [TX, e1] at h
    simp only [List.cons_append, TX]
    split
    · rename_i hw
      rw [if_pos hw] at h
      split
      · rename_i hev
        rw [if_pos hev] at h
        exact fun w hC => Oper.wp_mono (fun a' w' ⟨C', h1, h2, h3⟩ => ⟨C', h1, h2, tx_append l1 (k + 1) a' C' h3⟩) (h w hC)
      · rename_i hev
        rw [if_neg hev] at h
        obtain ⟨v, h1, h2⟩ := h
        exact ⟨v, h1, tx_append l1 (k + 1) _ C h2⟩
    · rename_i hw
      rw [if_neg hw] at h
      exact tx_append l1 (k + 1) _ C h
theorem tx_mono {ops : Array Oper} {ev wk : Nat → Bool} {K K' : Act → (World → Prop) → Prop} (hK : ∀ a C, K a C → K' a C) : ∀ (l : List Oper) (k : Nat) (a : Act) (C : World → Prop), TX P ops ev wk K l k a C → TX P ops ev wk K' l k a C
  | [], _, _, _, h => hK _ _ h
  | o :: l, k, a, C, h => by
    simp only [TX] at h ⊢
    split
    · rename_i hw
      rw [if_pos hw] at h
      split
      · rename_i he
        rw [if_pos he] at h
        exact fun w hC => Oper.wp_mono (fun a' w' ⟨C', h1, h2, h3⟩ => ⟨C', h1, h2, tx_mono hK l _ a' C' h3⟩) (h w hC)
      · rename_i he
        rw [if_neg he] at h
        obtain ⟨v, h1, h2⟩ := h
        exact ⟨v, h1, tx_mono hK l _ _ C h2⟩
    · rename_i hw
      rw [if_neg hw] at h
      exact tx_mono hK l _ _ C h
/-- The deferred call of f with vs. -/
def defOf (f : FuncId) (cap : Array Value) (vs : List Value) : Deferred := { target := .fn (.func f) cap, args := vs.toArray }
/-- A region that ends with a deferred call. -/
theorem hc_defer {id : Nat} {l1 : List Oper} {o : Oper} {c : Call} {f : FuncId} {fo : Operand} (ho : o.op = .defer c) (hg : o.guard = none) (hdst : o.dst = none) (hc : c.callee = .value fo)
    (h : HX P n ds (l1 ++ [o]).toArray (fun _ => true) (fun _ => false) (fun e' C' => ∃ vs cap, e'.op fo = some (.func (.func f) #[] cap) ∧ e'.ops c.args.toList = some vs ∧ HQ n (defOf f cap vs :: ds) Q .normal e' C') l1 0 e C) :
    HC P n ds (Code.region id (l1 ++ [o]).toArray false) Q e C := ⟨fun a w ha hC => by
  refine wp_region_tx0 (ev := fun _ => true) (wk := fun _ => false) (C := C) hC ?_
  refine tx_append l1 0 a C (tx_mono ?_ l1 0 a C (h.out a ha))
  rintro a' C' ⟨e', h1, vs, cap, h2, h3, h4⟩
  simp only [TX]
  rw [if_pos (by simp [Region.wanted, hg]), if_pos trivial]
  intro w' hw'
  have e1 : c.args.map a'.eval = vs.toArray := by
    rw [← h1.evals h3]
    exact Array.ext' (by simp)
  have hrun : (execOp a'.eval o).run P w' = .ok (.defer (defOf f cap vs)) w' := by
    simp [execOp, ho, resolve, hc, h1.eval h2, Deferred.ofValue, e1, defOf]
  unfold Oper.wp
  rw [hrun]
  refine ⟨C', hw', (fun h => by cases h), fun w'' hw'' => ?_⟩
  rw [hdst]
  exact h4.out _ w'' ⟨h1.size, by show _ :: a'.defers = _; rw [h1.defers], h1.get⟩ hw''⟩
/-- A deferred call of f, where the caller returns. -/
def SpecD (P : Program) (f : FuncId) (args : List Value) (pre : List Asn) (post : Value → List Asn → Prop) : Prop :=
  ∀ w F, Star w pre F → CallsD P f args.toArray .returning w (fun en u w' => u = .returning ∧ ∃ v M, en = .returned v ∧ post v M ∧ St w F M w')
theorem spec_ofD {f : FuncId} {fn : Func} {c : Code} {args : List Value} {pre : List Asn} {post : Value → List Asn → Prop} (hf : P.funcs[f]? = some fn) (hb : fn.body = some c) (hn : fn.ntmps = n) (hlen : args.length ≤ n)
    (h : ∀ w F, HC P n [] c (bodyPostD P fn (bodyR w F post)) (envOf 0 args) (St w F pre)) : Spec P f args pre post := fun w F hs => by
  refine calls_of_wp_defers hf hb ((h w F).out _ _ ⟨?_, rfl, fun k v hk => ?_⟩ (.start hs))
  · simp [hn]; omega
  · obtain ⟨_, h2⟩ := envOf_get _ _ _ _ hk
    have hlt : k - 0 < args.length := by
      rcases Nat.lt_or_ge (k - 0) args.length with h | h
      · exact h
      · simp only [Nat.sub_zero] at h h2; rw [List.getElem?_eq_none h] at h2; cases h2
    have hlt' : k < args.length := by omega
    rw [Nat.sub_zero] at h2
    rw [Array.getElem?_append_left (by simpa using hlt')]
    simpa using h2
/-- The return, one call deferred. -/
theorem hq_retD1 {fn : Func} {x : Exit} {f : FuncId} {vs : List Value} {cap : Array Value} {pre rest : List Asn} {postf post : Value → List Asn → Prop} {x1 : ResultVar} (hx : x = .normal ∨ x = .ret) (hr : fn.results = #[x1]) (he : Enters P f) (hpu : Pulls L pre rest) (hs : SpecD P f (vs ++ cap.toList) pre postf)
    (h : ∀ v M, postf v M → ∃ v1 M', RVal P e (M ++ rest) x1 v1 ∧ post v1 M' ∧ ∀ w, St w0 F0 (M ++ rest) w → St w0 F0 M' w) :
    HQ n [defOf f cap vs] (bodyPostD P fn (bodyR w0 F0 post)) x e (St w0 F0 L) := ⟨fun a w ha hC => by
  have hC' : St w0 F0 (pre ++ rest) w := hC.perm hpu.perm
  have key : Leaves P fn a.tmps (bodyR w0 F0 post) a.defers .returning w := by
    rw [ha.defers]
    have hi : (invoke (.fn (.func f) cap) vs.toArray).run P w = .ok (.enter f (vs.toArray ++ cap)) w := by
      simp only [invoke]
      exact he _ _
    refine leaves_cons (by simp) hi ?_
    obtain ⟨F, h1, h2, h3⟩ := hC'
    obtain ⟨F1, F2, s1, s2, s3, s4⟩ := h1.tight.split
    have hcall := hs w F1 s1
    have e1 : (vs ++ cap.toList).toArray = vs.toArray ++ cap := by simp
    rw [e1] at hcall
    refine hcall.mono ?_
    rintro en u w' ⟨rfl, v, M, rfl, hp, hSt⟩
    have hst : St w0 F0 (M ++ rest) w' := by
      obtain ⟨G, g1, g2, g3⟩ := hSt
      have t2 := s2.tight
      refine ⟨fun b => G b ∨ (F2 b ∧ b < w.heap.size), g1.join (t2.loc fun b hb => g2.blk b hb.2 fun hb1 => s3 b hb1 hb.1) (fun b hb hc => ?_) (fun _ h => h), ⟨g2.os.trans h2.os, g2.tape.trans h2.tape, g2.output.trans h2.output, Nat.le_trans h2.size g2.size, fun k hk hn => ?_⟩, fun b hb => ?_⟩
      · rcases g3 b hb with h | h
        · exact s3 b h hc.1
        · exact absurd hc.2 (by omega)
      · refine (g2.blk k (Nat.lt_of_lt_of_le hk h2.size) fun hk1 => ?_).trans (h2.blk k hk hn)
        rcases h3 k (s4 k (.inl hk1)).1 with h | h
        · exact hn h
        · omega
      · rcases hb with hb | hb
        · rcases g3 b hb with h | h
          · exact h3 b (s4 b (.inl h)).1
          · exact .inr (Nat.le_trans h2.size h)
        · exact h3 b (s4 b (.inr hb.1)).1
    obtain ⟨v1, M', r1, r2, r3⟩ := h v M hp
    exact ⟨v1, results1 hr r1 ha hst, v1, M', rfl, r2, r3 w' hst⟩
  rcases hx with rfl | rfl
  · exact key
  · exact key⟩
/-- A deferred function that begins with recover(), where nothing is to be recovered. -/
theorem specD_recover {f : FuncId} {fn : Func} {id : Nat} {o : Oper} {rest : Code} {args : List Value} {pre : List Asn} {post : Value → List Asn → Prop} {t : Nat} (hf : P.funcs[f]? = some fn) (hb : fn.body = some (Code.seq (Code.region id #[o] false) rest)) (hn : fn.ntmps = n) (hlen : args.length ≤ n)
    (ho : o.op = .call { callee := .builtin .recover, args := #[], argTypes := #[] }) (hg : o.guard = none) (hdst : o.dst = some t) (ht : okD n (some t) = true)
    (h : ∀ w F, HC P n [] rest (bodyPost P fn (bodyR w F post)) ((t, .nilIface) :: envOf 0 args) (St w F pre)) : SpecD P f args pre post := fun w F hs => by
  refine callsD_of_wpS hf hb (fun c0 cs hu => ?_)
  apply wpS_seq
  apply wpS_region
  obtain ⟨a0, ha0⟩ : ∃ a0 : Act, a0 = { tmps := args.toArray ++ Array.replicate (fn.ntmps - args.toArray.size) undef, defers := [] } := ⟨_, rfl⟩
  have hhas : Has n [] a0 (envOf 0 args) := by
    subst ha0
    refine ⟨by simp [hn]; omega, rfl, fun k v hk => ?_⟩
    obtain ⟨_, h2⟩ := envOf_get _ _ _ _ hk
    have hlt : k - 0 < args.length := by
      rcases Nat.lt_or_ge (k - 0) args.length with h | h
      · exact h
      · simp only [Nat.sub_zero] at h h2; rw [List.getElem?_eq_none h] at h2; cases h2
    have hlt' : k < args.length := by omega
    rw [Nat.sub_zero] at h2
    show (args.toArray ++ _)[k]? = _
    rw [Array.getElem?_append_left (by simpa using hlt')]
    simpa using h2
  rw [← ha0]
  have hrun : (execOp a0.eval o).run P w = .ok .recover w := by
    simp [execOp, ho, resolve, invoke, builtin]
  have hrec : recoverD (c0 :: cs) = none := by simp [recoverD, hu]
  have hw : Region.wanted o (yielded #[o] a0.tmps) = true := by simp [Region.wanted, hg]
  show wpOpsS P #[o] _ [0] a0 (c0 :: cs) w
  simp only [wpOpsS]
  have h0 : (#[o] : Array Oper)[0]? = some o := rfl
  simp only [h0, hw, if_true, hrun, hrec]
  have ha' : Has n [] (a0.put o.dst .nilIface) ((t, .nilIface) :: envOf 0 args) := by rw [hdst]; exact hhas.put ht _
  refine wpS_of_wp (wp_mono ((h w F).out _ w ha' (.start hs)) ?_)
  have hc0 : ({ c0 with mode := .returning } : Frame) = c0 := by rw [← hu]
  intro ex a' w' hq
  cases ex with
  | normal =>
    obtain ⟨h1, v, h2, h3⟩ := hq
    exact ⟨h1, .returning, by rw [hc0], v, h2, rfl, h3⟩
  | ret =>
    obtain ⟨h1, v, h2, h3⟩ := hq
    exact ⟨h1, .returning, by rw [hc0], v, h2, rfl, h3⟩
  | panic ch =>
    obtain ⟨_, v, M, h1, _⟩ := hq
    cases h1
  | outgrown =>
    obtain ⟨v, M, h1, _⟩ := hq
    cases h1
  | exit id => exact hq.elim
  | goto l => exact hq.elim
end
end Go.Proofs.YtjnnlfeohbidhaaDoor
