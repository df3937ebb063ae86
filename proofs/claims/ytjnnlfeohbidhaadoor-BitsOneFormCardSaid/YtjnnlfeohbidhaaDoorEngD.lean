import Derived.Test.YtjnnlfeohbidhaaDoorEngC
namespace Go.Proofs.YtjnnlfeohbidhaaDoor
open Go

def SizeOf (P : Program) (t : TypeId) (s : Nat) : Prop := ∃ i, P.info? t = some i ∧ i.size = s
def ZeroOf (P : Program) (t : TypeId) (z : Value) : Prop := ∃ i, P.info? t = some i ∧ i.zero = some z
/-- The field f of the struct type s lies at fo and is of the type ty. -/
def FieldAt (P : Program) (s f fo ty : Nat) : Prop := ∃ (fs : Array Field) (fd : Field), P.underlying s = some (.struct fs) ∧ fs[f]? = some fd ∧ fd.offset = fo ∧ fd.type = ty ∧ ∃ z, SizeOf P ty z ∧ z ≠ 0
/-- The i-th. -/
def nth {α : Type} : List α → Nat → Option α
  | [], _ => none
  | a :: _, 0 => some a
  | _ :: l, i + 1 => nth l i
theorem nth_eq {α : Type} : ∀ (l : List α) (i : Nat), nth l i = l[i]?
  | [], _ => rfl
  | _ :: _, 0 => rfl
  | _ :: l, i + 1 => by simp [nth, nth_eq l i]
theorem nth_at {α : Type} {a : Array α} {i : Nat} {x : α} (h : nth a.toList i = some x) : a[i]? = some x := by rw [nth_eq] at h; simpa using h
/-- What the program says of its types, to be found by Lean itself. -/
class UC (P : Program) (t : Nat) (d : outParam TypeDesc) : Prop where
  out : P.underlying t = some d
class IC (P : Program) (t : Nat) (s b : outParam Nat) (z : outParam Value) : Prop where
  out : ∃ i, P.info? t = some i ∧ i.size = s ∧ i.bytes = b ∧ i.zero = some z
class FC (P : Program) (s f : Nat) (fo ty : outParam Nat) : Prop where
  out : FieldAt P s f fo ty
theorem IC.size {P : Program} {t s b : Nat} {z : Value} [h : IC P t s b z] : SizeOf P t s := let ⟨i, h1, h2, _⟩ := h.out; ⟨i, h1, h2⟩
theorem IC.zero {P : Program} {t s b : Nat} {z : Value} [h : IC P t s b z] : ZeroOf P t z := let ⟨i, h1, _, _, h2⟩ := h.out; ⟨i, h1, h2⟩
class EC (P : Program) (f : Nat) : Prop where
  out : ∀ args w, (callFunc f args).run P w = .ok (.enter f args) w
def aggD : TypeDesc → Bool
  | .struct _ => true
  | .array _ _ => true
  | _ => false

section
variable {P : Program} {w : World}
theorem run_und {t : TypeId} {d : TypeDesc} (h : P.underlying t = some d) : (underlying t).run P w = .ok d w := by
  simp [underlying, h]
theorem run_size {t : TypeId} {s : Nat} (h : SizeOf P t s) : (sizeOf t).run P w = .ok s w := by
  obtain ⟨i, h1, h2⟩ := h
  simp [sizeOf, typeInfo, h1, h2]
theorem run_zero {t : TypeId} {z : Value} (h : ZeroOf P t z) : (zeroValue t).run P w = .ok z w := by
  obtain ⟨i, h1, h2⟩ := h
  simp [zeroValue, typeInfo, h1, h2]
theorem run_isAgg {t : TypeId} {d : TypeDesc} (h : P.underlying t = some d) : (isAgg t).run P w = .ok (aggD d) w := by
  simp [isAgg, run_und h]
  cases d <;> simp [aggD]
theorem run_equalB {t : TypeId} {a b : Bool} (h : P.underlying t = some .bool) : (Op.equal t (.bool a) (.bool b)).run P w = .ok (a == b) w := by
  show Sem.run P (Op.equalIn (9999 + 1) t _ _) w = _
  rw [Op.equalIn]
  simp [run_und h]
theorem run_load1 {t : TypeId} {d : TypeDesc} {a : Addr} {v : Value} (h : P.underlying t = some d) (hd : aggD d = false) (hc : w.cell? a = some v) : (Instr.loadAt t (.pointer (some a))).run P w = .ok v w := by
  simp [Instr.loadAt, Instr.sureAddr, loadVar, run_isAgg h, hd, hc]
theorem run_loadN {t : TypeId} {d : TypeDesc} {a : Addr} {s : Nat} {vs : List Value} (h : P.underlying t = some d) (hd : aggD d = true) (hs : SizeOf P t s) (hl : vs.length = s) (hc : ∀ j v, vs[j]? = some v → w.cell? (a.add j) = some v) :
    (Instr.loadAt t (.pointer (some a))).run P w = .ok (.agg vs.toArray) w := by
  simp [Instr.loadAt, Instr.sureAddr, loadVar, run_isAgg h, hd, run_size hs, ← hl, run_loadCells_list w a vs hc]
end

section
variable {P : Program} {n : Nat} {ds : List Deferred} {ops : Array Oper} {ev wk : Nat → Bool} {K : Env → (World → Prop) → Prop} {r : List Oper} {o : Oper} {k : Nat} {e : Env} {C : World → Prop}

theorem kLoad {t : TypeId} {x : Operand} (_ho : o.op = .load t x) (h : HX1 P n ds ops ev wk K o r k e C) : HX1 P n ds ops ev wk K o r k e C := h
theorem kMapUp {t : TypeId} {x y z : Operand} (_ho : o.op = .mapUpdate t x y z) (h : HX1 P n ds ops ev wk K o r k e C) : HX1 P n ds ops ev wk K o r k e C := h
theorem kLookup {t : TypeId} {x y : Operand} {b : Bool} (_ho : o.op = .lookup t x y b) (h : HX1 P n ds ops ev wk K o r k e C) : HX1 P n ds ops ev wk K o r k e C := h
theorem kDelete {as : Array Operand} {ts : Array TypeId} (_ho : o.op = .call { callee := .builtin .delete, args := as, argTypes := ts }) (h : HX1 P n ds ops ev wk K o r k e C) : HX1 P n ds ops ev wk K o r k e C := h
theorem kStore {t : TypeId} {x y : Operand} (_ho : o.op = .store t x y) (h : HX1 P n ds ops ev wk K o r k e C) : HX1 P n ds ops ev wk K o r k e C := h
theorem kBin {op : BinOp} {t t2 : TypeId} {x y : Operand} (_ho : o.op = .binOp op t x y t2) (h : HX1 P n ds ops ev wk K o r k e C) : HX1 P n ds ops ev wk K o r k e C := h
theorem h_move {x : Operand} {v : Value} (ho : o.op = .move x) (hx : e.op x = some v) {dd : Nat} (hdst : o.dst = some dd) (hd : okD n (some dd) = true) (h : HX P n ds ops ev wk K r (k + 1) ((dd, v) :: e) C) : HX1 P n ds ops ev wk K o r k e C :=
  hx1_pure (by rw [ho]; rfl) hdst hd (fun a w ha => by simp [execOp, ho, ha.eval hx]) h
theorem h_assign {x : Operand} {v : Value} (ho : o.op = .assign x) (hx : e.op x = some v) {dd : Nat} (hdst : o.dst = some dd) (hd : okD n (some dd) = true) (h : HX P n ds ops ev wk K r (k + 1) ((dd, v) :: e) C) : HX1 P n ds ops ev wk K o r k e C :=
  hx1_pure (by rw [ho]; rfl) hdst hd (fun a w ha => by simp [execOp, ho, ha.eval hx]) h
theorem h_pickT {c x y : Operand} {v : Value} (ho : o.op = .pick c x y) (hc : e.op c = some (.bool true)) (hx : e.op x = some v) {dd : Nat} (hdst : o.dst = some dd) (hd : okD n (some dd) = true) (h : HX P n ds ops ev wk K r (k + 1) ((dd, v) :: e) C) : HX1 P n ds ops ev wk K o r k e C :=
  hx1_pure (by rw [ho]; rfl) hdst hd (fun a w ha => by simp [execOp, ho, ha.eval hc, ha.eval hx, asBool]) h
theorem h_pickF {c x y : Operand} {v : Value} (ho : o.op = .pick c x y) (hc : e.op c = some (.bool false)) (hy : e.op y = some v) {dd : Nat} (hdst : o.dst = some dd) (hd : okD n (some dd) = true) (h : HX P n ds ops ev wk K r (k + 1) ((dd, v) :: e) C) : HX1 P n ds ops ev wk K o r k e C :=
  hx1_pure (by rw [ho]; rfl) hdst hd (fun a w ha => by simp [execOp, ho, ha.eval hc, ha.eval hy, asBool]) h
theorem h_nilCheck {x : Operand} {a0 : Addr} (ho : o.op = .nilCheck x) (hx : e.op x = some (.pointer (some a0))) {dd : Nat} (hdst : o.dst = some dd) (hd : okD n (some dd) = true) (h : HX P n ds ops ev wk K r (k + 1) ((dd, (.pointer (some a0))) :: e) C) : HX1 P n ds ops ev wk K o r k e C :=
  hx1_pure (by rw [ho]; rfl) hdst hd (fun a w ha => by simp [execOp, ho, ha.eval hx]) h
theorem h_nilCheckF {x : Operand} {f : FuncId} {l1 l2 : Array Value} (ho : o.op = .nilCheck x) (hx : e.op x = some (.func (.func f) l1 l2)) {dd : Nat} (hdst : o.dst = some dd) (hd : okD n (some dd) = true) (h : HX P n ds ops ev wk K r (k + 1) ((dd, (.func (.func f) l1 l2)) :: e) C) : HX1 P n ds ops ev wk K o r k e C :=
  hx1_pure (by rw [ho]; rfl) hdst hd (fun a w ha => by simp [execOp, ho, ha.eval hx]) h

/-- The place of a field. -/
theorem h_fieldAddr {s f b off fo ty : Nat} {x : Operand} (ho : o.op = .fieldAddr s x f) (hx : e.op x = some (.pointer (some ⟨b, off, none⟩))) (hf : FieldAt P s f fo ty)
    {dd : Nat} (hdst : o.dst = some dd) (hd : okD n (some dd) = true) (h : HX P n ds ops ev wk K r (k + 1) ((dd, .pointer (some ⟨b, off + fo, none⟩)) :: e) C) : HX1 P n ds ops ev wk K o r k e C :=
  hx1_pure (by rw [ho]; rfl) hdst hd (fun a w ha => by
    obtain ⟨fs, fd, hu, hf, rfl, rfl, z, hs, hz⟩ := hf
    have e1 : (⟨b, off, none⟩ : Addr).add fd.offset = ⟨b, off + fd.offset, none⟩ := by
      unfold Addr.add
      split
      · rename_i h0; rw [h0]; rfl
      · rfl
    simp [execOp, ho, ha.eval hx, Instr.fieldAt, run_und hu, hf, Instr.sureAddr, fieldPlace, run_size hs, hz, e1]) h
/-- .. of what a pointer to the begin of a block points to. -/
theorem h_fieldAddr0 {s f b fo ty : Nat} {x : Operand} (ho : o.op = .fieldAddr s x f) (hx : e.op x = some (.pointer (some ⟨b, 0, none⟩))) (hf : FieldAt P s f fo ty)
    {dd : Nat} (hdst : o.dst = some dd) (hd : okD n (some dd) = true) (h : HX P n ds ops ev wk K r (k + 1) ((dd, .pointer (some ⟨b, fo, none⟩)) :: e) C) : HX1 P n ds ops ev wk K o r k e C :=
  h_fieldAddr ho hx hf hdst hd (by rw [Nat.zero_add]; exact h)

/-- A part of a struct by value, of one cell. -/
theorem h_field1 {s f fo ty : Nat} {x : Operand} {d : TypeDesc} {cs : Array Value} {v : Value} (ho : o.op = .field s x f) (hx : e.op x = some (.agg cs)) (hf : FieldAt P s f fo ty)
    (hu2 : P.underlying ty = some d) (hna : aggD d = false) (hv : nth cs.toList fo = some v) {dd : Nat} (hdst : o.dst = some dd) (hd : okD n (some dd) = true) (h : HX P n ds ops ev wk K r (k + 1) ((dd, v) :: e) C) : HX1 P n ds ops ev wk K o r k e C :=
  hx1_pure (by rw [ho]; rfl) hdst hd (fun a w ha => by
    obtain ⟨fs, fd, hu, hf, rfl, rfl, z, hs, hz⟩ := hf
    have hv' : cs[fd.offset]? = some v := by rw [nth_eq] at hv; simpa using hv
    simp [execOp, ho, ha.eval hx, Instr.field, run_und hu, hf, part, run_isAgg hu2, hna, asAgg, hv']) h
theorem h_fieldN {s f fo ty s1 : Nat} {x : Operand} {d : TypeDesc} {cs : Array Value} (ho : o.op = .field s x f) (hx : e.op x = some (.agg cs)) (hf : FieldAt P s f fo ty)
    (hu2 : P.underlying ty = some d) (hna : aggD d = true) (hs1 : SizeOf P ty s1) {dd : Nat} (hdst : o.dst = some dd) (hd : okD n (some dd) = true) (h : HX P n ds ops ev wk K r (k + 1) ((dd, .agg (cs.extract fo (fo + s1))) :: e) C) : HX1 P n ds ops ev wk K o r k e C :=
  hx1_pure (by rw [ho]; rfl) hdst hd (fun a w ha => by
    obtain ⟨fs, fd, hu, hf, rfl, rfl, z, hs, hz⟩ := hf
    simp [execOp, ho, ha.eval hx, Instr.field, run_und hu, hf, part, run_isAgg hu2, hna, asAgg, run_size hs1]) h

/-- The place of an element of a slice. -/
theorem h_indexAddr {t el b off len cap sz : Nat} {x y : Operand} {kk : IntKind} {i : Int} (ho : o.op = .indexAddr t x y) (hx : e.op x = some (.slice (some ⟨b, off, none⟩) len cap)) (hy : e.op y = some (.int kk i)) (hu : P.underlying t = some (.slice el)) (hs : SizeOf P el sz)
    (h0 : 0 ≤ i) (h1 : i < len) {dd : Nat} (hdst : o.dst = some dd) (hd : okD n (some dd) = true) (h : HX P n ds ops ev wk K r (k + 1) ((dd, (.pointer (some ⟨b, off + i.toNat * sz, none⟩))) :: e) C) : HX1 P n ds ops ev wk K o r k e C :=
  hx1_pure (by rw [ho]; rfl) hdst hd (fun a w ha => by
    have e1 : (⟨b, off, none⟩ : Addr).add (i.toNat * sz) = ⟨b, off + i.toNat * sz, none⟩ := by
      unfold Addr.add
      split
      · rename_i h0; rw [h0]; rfl
      · rfl
    simp [execOp, ho, ha.eval hx, ha.eval hy, Instr.indexAt, asIntOf, run_und hu, h0, h1, run_size hs, e1]) h

theorem h_extract {x : Operand} {ix : Nat} {vs : Array Value} {v : Value} (ho : o.op = .extract x ix) (hx : e.op x = some (.tuple vs)) (hv : nth vs.toList ix = some v) {dd : Nat} (hdst : o.dst = some dd) (hd : okD n (some dd) = true) (h : HX P n ds ops ev wk K r (k + 1) ((dd, v) :: e) C) : HX1 P n ds ops ev wk K o r k e C :=
  hx1_pure (by rw [ho]; rfl) hdst hd (fun a w ha => by
    have hv' : vs[ix]? = some v := by rw [nth_eq] at hv; simpa using hv
    simp [execOp, ho, ha.eval hx, Instr.extract, hv']) h

theorem h_len_slice {x : Operand} {t : TypeId} {ats : Array TypeId} {ty : TypeId} {el : TypeId} {a0 : Option Addr} {len cap : Nat} (ho : o.op = .call { callee := .builtin .len, args := #[x], argTypes := ats }) (hat : nth ats.toList 0 = some t) (_hty : o.type = ty) (hu : P.underlying t = some (.slice el))
    (hx : e.op x = some (.slice a0 len cap)) {dd : Nat} (hdst : o.dst = some dd) (hd : okD n (some dd) = true) (h : HX P n ds ops ev wk K r (k + 1) ((dd, (.int .i64 (len : Int))) :: e) C) : HX1 P n ds ops ev wk K o r k e C :=
  hx1_pure (by rw [ho]; rfl) hdst hd (fun a w ha => by
    simp [execOp, ho, resolve, invoke, builtin, Builtin.len_, ha.eval hx, nth_at hat, run_und hu, goInt]) h
theorem h_len_str {x : Operand} {t : TypeId} {ats : Array TypeId} {s : ByteArray} (ho : o.op = .call { callee := .builtin .len, args := #[x], argTypes := ats }) (hat : nth ats.toList 0 = some t) (hu : P.underlying t = some .string)
    (hx : e.op x = some (.string s)) {dd : Nat} (hdst : o.dst = some dd) (hd : okD n (some dd) = true) (h : HX P n ds ops ev wk K r (k + 1) ((dd, (.int .i64 (s.size : Int))) :: e) C) : HX1 P n ds ops ev wk K o r k e C :=
  hx1_pure (by rw [ho]; rfl) hdst hd (fun a w ha => by
    simp [execOp, ho, resolve, invoke, builtin, Builtin.len_, ha.eval hx, nth_at hat, run_und hu, goInt]) h

/-! tests and arithmetic on whole numbers -/
theorem h_cmp {op : BinOp} {t t2 : TypeId} {x y : Operand} {q : IntKind} {a b : Int} {v : Value} (ho : o.op = .binOp op t x y t2) (hx : e.op x = some (.int q a)) (hy : e.op y = some (.int q b))
    (hv : (match op with | .eql => some (Value.bool (decide (a = b))) | .neq => some (.bool (decide (a ≠ b))) | .lss => some (.bool (decide (a < b))) | .leq => some (.bool (decide (a ≤ b))) | .gtr => some (.bool (decide (a > b))) | .geq => some (.bool (decide (a ≥ b))) | _ => none) = some v)
    {dd : Nat} (hdst : o.dst = some dd) (hd : okD n (some dd) = true) (h : HX P n ds ops ev wk K r (k + 1) ((dd, v) :: e) C) : HX1 P n ds ops ev wk K o r k e C :=
  hx1_pure (by rw [ho]; rfl) hdst hd (fun a' w ha => by
    cases op <;> simp at hv <;> subst hv <;> simp [execOp, ho, eqGuard, binOp, ha.eval hx, ha.eval hy, Op.intCmp]
    · by_cases hab : a = b <;> simp [hab]
    · by_cases hab : a = b <;> simp [hab]) h
theorem h_arith {op : BinOp} {t t2 : TypeId} {x y : Operand} {q : IntKind} {a b c : Int} (ho : o.op = .binOp op t x y t2) (hx : e.op x = some (.int q a)) (hy : e.op y = some (.int q b))
    (hv : (match op with | .add => some (q.wrap (a + b)) | .sub => some (q.wrap (a - b)) | .mul => some (q.wrap (a * b)) | _ => none) = some c)
    {dd : Nat} (hdst : o.dst = some dd) (hd : okD n (some dd) = true) (h : HX P n ds ops ev wk K r (k + 1) ((dd, (.int q c)) :: e) C) : HX1 P n ds ops ev wk K o r k e C :=
  hx1_pure (by rw [ho]; rfl) hdst hd (fun a' w ha => by
    cases op <;> simp at hv <;> subst hv <;> simp [execOp, ho, eqGuard, binOp, ha.eval hx, ha.eval hy, Op.intArith]) h
theorem h_quo {t t2 : TypeId} {x y : Operand} {q : IntKind} {a b : Int} (ho : o.op = .binOp .quo t x y t2) (hx : e.op x = some (.int q a)) (hy : e.op y = some (.int q b)) (hb : b ≠ 0)
    {dd : Nat} (hdst : o.dst = some dd) (hd : okD n (some dd) = true) (h : HX P n ds ops ev wk K r (k + 1) ((dd, (.int q (q.wrap (a.tdiv b)))) :: e) C) : HX1 P n ds ops ev wk K o r k e C :=
  hx1_pure (by rw [ho]; rfl) hdst hd (fun a' w ha => by
    simp [execOp, ho, eqGuard, binOp, ha.eval hx, ha.eval hy, Op.intDiv, hb]) h
theorem h_rem {t t2 : TypeId} {x y : Operand} {q : IntKind} {a b : Int} (ho : o.op = .binOp .rem t x y t2) (hx : e.op x = some (.int q a)) (hy : e.op y = some (.int q b)) (hb : b ≠ 0)
    {dd : Nat} (hdst : o.dst = some dd) (hd : okD n (some dd) = true) (h : HX P n ds ops ev wk K r (k + 1) ((dd, (.int q (a.tmod b))) :: e) C) : HX1 P n ds ops ev wk K o r k e C :=
  hx1_pure (by rw [ho]; rfl) hdst hd (fun a' w ha => by
    simp [execOp, ho, eqGuard, binOp, ha.eval hx, ha.eval hy, Op.intDiv, hb]) h
theorem h_cmpS {op : BinOp} {t t2 : TypeId} {x y : Operand} {a b : ByteArray} {v : Value} (ho : o.op = .binOp op t x y t2) (hx : e.op x = some (.string a)) (hy : e.op y = some (.string b))
    (hv : (match op with | .eql => some (Value.bool (a.toList == b.toList)) | .neq => some (.bool (!(a.toList == b.toList))) | .lss => some (.bool (Op.bytesLess a.toList b.toList)) | .leq => some (.bool (Op.bytesLess a.toList b.toList || a.toList == b.toList)) | .gtr => some (.bool (!(Op.bytesLess a.toList b.toList || a.toList == b.toList))) | .geq => some (.bool (!(Op.bytesLess a.toList b.toList))) | _ => none) = some v)
    {dd : Nat} (hdst : o.dst = some dd) (hd : okD n (some dd) = true) (h : HX P n ds ops ev wk K r (k + 1) ((dd, v) :: e) C) : HX1 P n ds ops ev wk K o r k e C :=
  hx1_pure (by rw [ho]; rfl) hdst hd (fun a' w ha => by
    cases op <;> simp at hv <;> subst hv <;> simp [execOp, ho, eqGuard, binOp, ha.eval hx, ha.eval hy, Op.stringOp]) h
/-- .. where the result is an int. -/
theorem h_arithI {op : BinOp} {t t2 : TypeId} {x y : Operand} {a b c : Int} (ho : o.op = .binOp op t x y t2) (hx : e.op x = some (.int .i64 a)) (hy : e.op y = some (.int .i64 b))
    (hv : (match op with | .add => some (a + b) | .sub => some (a - b) | .mul => some (a * b) | _ => none) = some c) (hc : -9223372036854775808 ≤ c ∧ c ≤ 9223372036854775807)
    {dd : Nat} (hdst : o.dst = some dd) (hd : okD n (some dd) = true) (h : HX P n ds ops ev wk K r (k + 1) ((dd, .int .i64 c) :: e) C) : HX1 P n ds ops ev wk K o r k e C :=
  h_arith ho hx hy (c := c) (by cases op <;> simp at hv <;> subst hv <;> simp only [Option.some.injEq] <;> exact IntWalk.i64_in _ hc) hdst hd h
theorem h_quoI {t t2 : TypeId} {x y : Operand} {a b : Int} (ho : o.op = .binOp .quo t x y t2) (hx : e.op x = some (.int .i64 a)) (hy : e.op y = some (.int .i64 b)) (hb : 0 ≤ a ∧ a ≤ 9223372036854775807 ∧ 1 ≤ b)
    {dd : Nat} (hdst : o.dst = some dd) (hd : okD n (some dd) = true) (h : HX P n ds ops ev wk K r (k + 1) ((dd, .int .i64 (a / b)) :: e) C) : HX1 P n ds ops ev wk K o r k e C :=
  h_quo ho hx hy (by omega) hdst hd (by rw [IntWalk.i64_quo a b hb]; exact h)
theorem h_remI {t t2 : TypeId} {x y : Operand} {a b : Int} (ho : o.op = .binOp .rem t x y t2) (hx : e.op x = some (.int .i64 a)) (hy : e.op y = some (.int .i64 b)) (hb : 0 ≤ a ∧ b ≠ 0)
    {dd : Nat} (hdst : o.dst = some dd) (hd : okD n (some dd) = true) (h : HX P n ds ops ev wk K r (k + 1) ((dd, .int .i64 (a % b)) :: e) C) : HX1 P n ds ops ev wk K o r k e C :=
  h_rem ho hx hy hb.2 hdst hd (by rw [Int.tmod_eq_emod_of_nonneg hb.1]; exact h)
theorem h_not {t : TypeId} {x : Operand} {b : Bool} (ho : o.op = .unOp .not t x) (hx : e.op x = some (.bool b)) {dd : Nat} (hdst : o.dst = some dd) (hd : okD n (some dd) = true) (h : HX P n ds ops ev wk K r (k + 1) ((dd, (.bool (!b))) :: e) C) : HX1 P n ds ops ev wk K o r k e C :=
  hx1_pure (by rw [ho]; rfl) hdst hd (fun a' w ha => by simp [execOp, ho, ha.eval hx, Op.unary]) h
theorem run_eqPtrNil {t el : TypeId} {a0 : Addr} {w : World} (h : P.underlying t = some (.pointer el)) : (Op.equal t (.pointer (some a0)) (.pointer none)).run P w = .ok false w := by
  show Sem.run P (Op.equalIn (9999 + 1) t _ _) w = _
  rw [Op.equalIn]
  simp [run_und h]
theorem h_eqNil {t t2 el : TypeId} {x y : Operand} {a0 : Addr} (ho : o.op = .binOp .eql t x y t2) (hx : e.op x = some (.pointer (some a0))) (hy : e.op y = some (.pointer none)) (hu : P.underlying t = some (.pointer el))
    {dd : Nat} (hdst : o.dst = some dd) (hd : okD n (some dd) = true) (h : HX P n ds ops ev wk K r (k + 1) ((dd, .bool false) :: e) C) : HX1 P n ds ops ev wk K o r k e C :=
  hx1_pure (by rw [ho]; rfl) hdst hd (fun a' w ha => by
    simp [execOp, ho, eqGuard, binOp, ha.eval hx, ha.eval hy, run_eqPtrNil hu]) h
theorem h_neqNil {t t2 el : TypeId} {x y : Operand} {a0 : Addr} (ho : o.op = .binOp .neq t x y t2) (hx : e.op x = some (.pointer (some a0))) (hy : e.op y = some (.pointer none)) (hu : P.underlying t = some (.pointer el))
    {dd : Nat} (hdst : o.dst = some dd) (hd : okD n (some dd) = true) (h : HX P n ds ops ev wk K r (k + 1) ((dd, .bool true) :: e) C) : HX1 P n ds ops ev wk K o r k e C :=
  hx1_pure (by rw [ho]; rfl) hdst hd (fun a' w ha => by
    simp [execOp, ho, eqGuard, binOp, ha.eval hx, ha.eval hy, run_eqPtrNil hu]) h
theorem h_cmpB {op : BinOp} {t t2 : TypeId} {x y : Operand} {a b : Bool} {v : Value} (ho : o.op = .binOp op t x y t2) (hx : e.op x = some (.bool a)) (hy : e.op y = some (.bool b)) (hu : P.underlying t = some .bool)
    (hv : (match op with | .eql => some (Value.bool (a == b)) | .neq => some (.bool (a != b)) | _ => none) = some v)
    {dd : Nat} (hdst : o.dst = some dd) (hd : okD n (some dd) = true) (h : HX P n ds ops ev wk K r (k + 1) ((dd, v) :: e) C) : HX1 P n ds ops ev wk K o r k e C :=
  hx1_pure (by rw [ho]; rfl) hdst hd (fun a' w ha => by
    cases op <;> simp at hv <;> subst hv <;> simp [execOp, ho, eqGuard, binOp, ha.eval hx, ha.eval hy, run_equalB hu]
    cases a <;> cases b <;> rfl) h
end
end Go.Proofs.YtjnnlfeohbidhaaDoor
