import Derived.Test.YtjnnlfeohbidhaaDoorEngM
namespace Go.Proofs.YtjnnlfeohbidhaaDoor
open Go

/-! ### build, buildSlice, slices of slices, conversions -/
def setCells : List Value → Nat → List Value → List Value
  | cs, _, [] => cs
  | cs, i, v :: l => setCells (cs.set i v) (i + 1) l
theorem setCells_many (l : List Value) : ∀ (cs : Array Value) (i : Nat), (setCells cs.toList i l).toArray = setMany cs i l := by
  induction l with
  | nil => intro cs i; simp [setCells, setMany]
  | cons v l ih =>
    intro cs i
    rw [setCells, setMany, ← ih]
    simp
theorem fold_setMany (l : List Value) : ∀ (cs : Array Value) (off i : Nat), (l.zipIdx i).foldl (fun (cs : Array Value) (c : Value × Nat) => cs.setIfInBounds (off + c.2) c.1) cs = setMany cs (off + i) l := by
  induction l with
  | nil => intro cs off i; rfl
  | cons v l ih =>
    intro cs off i
    rw [List.zipIdx_cons, List.foldl_cons, setMany, ih, Nat.add_assoc]
theorem fill_step (place : Nat → Option (Nat × Nat)) (cells : Array Value) (i : Nat) (v : Value) (rest : List (Nat × Value)) (off size : Nat) (hp : place i = some (off, size)) (hs : v.cells.size = size) (hf : off + size ≤ cells.size) :
    Instr.fill place cells ((i, v) :: rest) = Instr.fill place (setMany cells off v.cells.toList) rest := by
  rw [Instr.fill, hp]
  simp only
  rw [if_neg (by rw [hs]; simp; omega)]
  congr 1
  rw [← Array.foldl_toList, Array.toList_zipIdx]
  exact fold_setMany _ _ _ 0

/-- The parts of a struct laid in their places. -/
def fillL (pl : List (Nat × Nat)) : List Value → List (Nat × Value) → Option (List Value)
  | cs, [] => some cs
  | cs, (i, v) :: r => match nth pl i with
    | none => none
    | some (off, s) => bif Nat.beq v.cells.toList.length s && Nat.ble (off + s) cs.length then fillL pl (setCells cs off v.cells.toList) r else none
theorem fillL_fill {pl : List (Nat × Nat)} : ∀ (parts : List (Nat × Value)) (cs : List Value) (out : List Value), fillL pl cs parts = some out → Instr.fill (fun i => pl[i]?) cs.toArray parts = some out.toArray
  | [], cs, out, h => by cases h; rfl
  | (i, v) :: r, cs, out, h => by
    simp only [fillL] at h
    split at h
    · cases h
    · rename_i off s hn
      cases hb : (Nat.beq v.cells.toList.length s && Nat.ble (off + s) cs.length) with
      | false => rw [hb] at h; cases h
      | true =>
        rw [hb] at h
        simp only [Bool.and_eq_true] at hb
        have h1 := Nat.eq_of_beq_eq_true hb.1
        have h2 := Nat.le_of_ble_eq_true hb.2
        rw [fill_step _ _ _ _ _ off s (by rw [← nth_eq]; exact hn) (by simpa using h1) (by simpa using h2)]
        have := fillL_fill r _ out h
        rwa [show cs = cs.toArray.toList by simp, setCells_many] at this

class BC (P : Program) (t : Nat) (pl : outParam (List (Nat × Nat))) (z : outParam (List Value)) : Prop where
  out : ∃ fs zv, P.underlying t = some (.struct fs) ∧ ZeroOf P t zv ∧ zv.cells = z.toArray ∧ fs.toList.length = pl.length ∧ ∀ (i : Nat) (f : Field), fs.toList[i]? = some f → ∃ o s, pl[i]? = some (o, s) ∧ f.offset = o ∧ SizeOf P f.type s

section
variable {P : Program} {n : Nat} {ds : List Deferred} {ops : Array Oper} {ev wk : Nat → Bool} {K : Env → (World → Prop) → Prop} {r : List Oper} {o : Oper} {k : Nat} {e : Env} {C : World → Prop} {w0 : World} {F0 : Nat → Prop} {L L' : List Asn}

def Env.parts (e : Env) : List (Nat × Operand) → Option (List (Nat × Value))
  | [] => some []
  | (i, x) :: l => match e.op x, Env.parts e l with
    | some v, some vs => some ((i, v) :: vs)
    | _, _ => none
theorem Has.parts {a : Act} (h : Has n ds a e) : ∀ {l : List (Nat × Operand)} {vs : List (Nat × Value)}, e.parts l = some vs → l.map (fun (i, x) => (i, a.eval x)) = vs
  | [], _, hx => by cases hx; rfl
  | (i, x) :: l, vs, hx => by
    simp only [Env.parts] at hx
    split at hx
    · rename_i v us h1 h2
      cases hx
      simp [h.eval h1, h.parts h2]
    · cases hx

theorem run_places {w : World} {fs : List Field} {pl : List (Nat × Nat)} (hl : fs.length = pl.length) (h : ∀ (i : Nat) (f : Field), fs[i]? = some f → ∃ o s, pl[i]? = some (o, s) ∧ f.offset = o ∧ SizeOf P f.type s) :
    (fs.mapM (m := Sem) fun f => do pure (f.offset, ← sizeOf f.type)).run P w = .ok pl w := by
  induction fs generalizing pl with
  | nil => cases pl with
    | nil => rfl
    | cons p pl => cases hl
  | cons f fs ih =>
    cases pl with
    | nil => cases hl
    | cons p pl =>
      obtain ⟨o, s, h1, h2, h3⟩ := h 0 f rfl
      cases h1
      have h4 := ih (pl := pl) (by simpa using hl) (fun i g hg => h (i + 1) g (by simpa using hg))
      rw [List.mapM_cons]
      simp only [Sem.run_bind]
      simp [run_size h3, h2]
      simp at h4
      rw [h4]
      rfl

theorem h_build {t : Nat} {ps : Array (Nat × Operand)} {pl : List (Nat × Nat)} {z : List Value} {vs : List (Nat × Value)} {cs : List Value} (ho : o.op = .build t ps) (hb : BC P t pl z) (hvs : e.parts ps.toList = some vs) (hf : fillL pl z vs = some cs)
    {dd : Nat} (hdst : o.dst = some dd) (hd : okD n (some dd) = true) (h : HX P n ds ops ev wk K r (k + 1) ((dd, .agg cs.toArray) :: e) C) : HX1 P n ds ops ev wk K o r k e C :=
  hx1_pure (by rw [ho]; rfl) hdst hd (fun a w ha => by
    obtain ⟨fs, zv, hu, hz, hzc, hl, hpl⟩ := hb.out
    have e1 : ps.map (fun (i, x) => (i, a.eval x)) = vs.toArray := by
      rw [← ha.parts hvs]
      exact Array.ext' (by simp)
    have h2 := run_places (P := P) (w := w) hl hpl
    have h3 : (fs.mapM (m := Sem) fun f => do pure (f.offset, ← sizeOf f.type)).run P w = .ok pl.toArray w := by
      rw [show fs = fs.toList.toArray by simp, List.mapM_toArray]
      simp at h2 ⊢
      rw [h2]
      rfl
    have h4 := fillL_fill vs z cs hf
    have h5 : (Instr.fill (fun x => pl.toArray[x]?) z.toArray vs) = some cs.toArray := by simpa using h4
    simp only [execOp, ho, e1, Instr.build]
    simp [run_zero hz, run_und hu, hzc]
    simp at h3
    rw [h3]
    simp [h4]) h

theorem flat_len {size : Nat} : ∀ (vs : List Value), (∀ v ∈ vs, v.cells.size = size) → (vs.flatMap (fun v => v.cells.toList)).length = vs.length * size
  | [], _ => by simp
  | v :: vs, h => by
    have h1 := h v (List.mem_cons_self ..)
    have h2 := flat_len vs (fun u hu => h u (List.mem_cons_of_mem _ hu))
    simp [h1, h2, Nat.add_mul, Nat.add_comm]

theorem fill_full {size : Nat} : ∀ (vs : List Value) (k : Nat) (cells : Array Value) (pre : List Value), (∀ v ∈ vs, v.cells.size = size) → pre.length = k * size → cells.size = (k + vs.length) * size → (∀ i, i < pre.length → cells[i]? = pre[i]?) →
    Instr.fill (fun i => some (i * size, size)) cells ((vs.zipIdx k).map fun p => (p.2, p.1)) = some (pre ++ vs.flatMap (fun v => v.cells.toList)).toArray
  | [], k, cells, pre, _, hp, hc, hi => by
    simp only [List.zipIdx_nil, List.map_nil, Instr.fill, List.flatMap_nil, List.append_nil]
    congr 1
    apply Array.ext_getElem?
    intro i
    by_cases h : i < pre.length
    · rw [hi i h]; simp
    · rw [Array.getElem?_eq_none (by simp at hc; omega)]
      simp
      omega
  | v :: vs, k, cells, pre, hv, hp, hc, hi => by
    have h1 := hv v (List.mem_cons_self ..)
    simp only [List.length_cons] at hc
    have hroom : k * size + size ≤ cells.size := by rw [hc]; have : (k + (vs.length + 1)) * size = k * size + size + vs.length * size := by rw [Nat.add_mul, Nat.add_mul]; omega
                                                    omega
    rw [List.zipIdx_cons, List.map_cons, fill_step _ _ _ _ _ (k * size) size rfl h1 hroom]
    rw [fill_full vs (k + 1) _ (pre ++ v.cells.toList) (fun u hu => hv u (List.mem_cons_of_mem _ hu)) (by simp [hp, h1, Nat.add_mul]) (by rw [setMany_size, hc]; congr 1; omega) (fun i hi' => by
      rw [setMany_get _ _ _ _ (by simpa [h1] using hroom)]
      simp only [List.length_append, Array.length_toList, h1] at hi' ⊢
      by_cases hlt : i < pre.length
      · rw [if_neg (by omega), hi i hlt, List.getElem?_append_left hlt]
      · rw [if_pos (by omega), List.getElem?_append_right (by omega), hp])]
    congr 2
    simp

def Env.elems (e : Env) (k : Nat) : List (Nat × Operand) → Option (List Value)
  | [] => some []
  | (i, x) :: l => bif Nat.beq i k then (match e.op x, Env.elems e (k + 1) l with
    | some v, some vs => some (v :: vs)
    | _, _ => none) else none
theorem Has.elems {a : Act} (h : Has n ds a e) : ∀ {l : List (Nat × Operand)} {k : Nat} {vs : List Value}, e.elems k l = some vs → l.map (fun (i, x) => (i, a.eval x)) = (vs.zipIdx k).map (fun p => (p.2, p.1)) ∧ vs.length = l.length
  | [], _, _, hx => by cases hx; exact ⟨rfl, rfl⟩
  | (i, x) :: l, k, vs, hx => by
    simp only [Env.elems] at hx
    cases hb : Nat.beq i k with
    | false => rw [hb] at hx; cases hx
    | true =>
      rw [hb] at hx
      obtain rfl := Nat.eq_of_beq_eq_true hb
      simp only [cond_true] at hx
      split at hx
      · rename_i v us h1 h2
        cases hx
        obtain ⟨h3, h4⟩ := h.elems h2
        simp [h.eval h1, h3, h4]
      · cases hx

/-- A new array, all its elements told. -/
theorem h_buildSlice {t el len size : Nat} {ps : Array (Nat × Operand)} {vs : List Value} {zv : Value} (hev : ev k = true) (hwk : wk k = false) (ho : o.op = .buildSlice t len ps) (hu : P.underlying t = some (.slice el)) (hs : SizeOf P el size) (hz : ZeroOf P el zv) (hvs : e.elems 0 ps.toList = some vs) (hlen : Nat.beq vs.length len = true) (hsz : ∀ v ∈ vs, v.cells.size = size) (hbig : len * size ≤ 2 ^ 24)
    {dd : Nat} (hdst : o.dst = some dd) (hd : okD n (some dd) = true) (h : ∀ b, HX P n ds ops ev wk K r (k + 1) ((dd, .slice (some ⟨b, 0, none⟩) len len) :: e) (St w0 F0 (Blk b (.cells (vs.flatMap (fun v => v.cells.toList)).toArray el (0, 0)) :: L))) : HX1 P n ds ops ev wk K o r k e (St w0 F0 L) :=
  hx1_event hev (fun a w ha hC => by
    obtain ⟨e1, e2⟩ := ha.elems hvs
    have hl := Nat.eq_of_beq_eq_true hlen
    have e3 : ps.map (fun (i, x) => (i, a.eval x)) = ((vs.zipIdx 0).map (fun p => (p.2, p.1))).toArray := by
      rw [← e1]
      exact Array.ext' (by simp)
    unfold Oper.wp
    have : (execOp a.eval o).run P w = .ok (.value (.slice (some ⟨w.heap.size, 0, none⟩) len len)) (w.alloc (.cells (vs.flatMap (fun v => v.cells.toList)).toArray el (0, 0))) := by
      have hfill : ∀ (c0 : Array Value), c0.size = len * size → Instr.fill (fun i => some (i * size, size)) c0 ((vs.zipIdx 0).map (fun p => (p.2, p.1))) = some (vs.flatMap (fun v => v.cells.toList)).toArray := fun c0 hc => by
        have := fill_full (size := size) vs 0 c0 [] hsz (by simp) (by simpa [hl] using hc) (by simp)
        simpa using this
      simp only [execOp, ho, e3, Instr.buildSlice]
      have hn : ¬ (len * size > 2 ^ 24) := by omega
      by_cases h0 : len * size = 0
      · simp [run_und hu, run_size hs, h0]
        rw [hfill (Array.map (fun _ => default) (Array.range 0)) (by simp [h0])]
        simp [newRow]
      · have hf := hfill ((Array.range (len * size)).map (zv.cells[· % zv.cells.size]!)) (by simp)
        simp [run_und hu, run_size hs, hn, h0, run_zero hz] at hf ⊢
        simp [hf, newRow]
    rw [this]
    exact ⟨_, _, hC.new _, (fun h => by rw [hwk] at h; cases h), (by rw [hdst]; exact ha.put hd _), h _⟩)

/-- s[:h]. -/
theorem h_sliceTo {t el len cap : Nat} {x y : Operand} {a0 : Option Addr} {q : IntKind} {i : Int} {s : Nat} (ho : o.op = .slice t x none (some y) none) (hx : e.op x = some (.slice a0 len cap)) (hy : e.op y = some (.int q i)) (hu : P.underlying t = some (.slice el)) (hs : SizeOf P el s) (hi : 0 ≤ i ∧ i ≤ cap)
    {dd : Nat} (hdst : o.dst = some dd) (hd : okD n (some dd) = true) (h : HX P n ds ops ev wk K r (k + 1) ((dd, .slice a0 i.toNat cap) :: e) C) : HX1 P n ds ops ev wk K o r k e C :=
  hx1_pure (by rw [ho]; rfl) hdst hd (fun a w ha => by
    have e1 : (if cap = 0 then a0 else a0.map (·.add 0)) = a0 := by
      split
      · rfl
      · cases a0 <;> simp [Addr.add]
    simp [execOp, ho, ha.eval hx, ha.eval hy, Instr.sliceAt, Instr.slice, run_und hu, Instr.sliceBounds, Instr.sliceBound, asIntOf, hi.1, hi.2, run_size hs, e1]) h
/-- s[l:]. -/
theorem h_sliceFrom {t el len cap : Nat} {x y : Operand} {a0 : Option Addr} {q : IntKind} {i : Int} {s : Nat} (ho : o.op = .slice t x (some y) none none) (hx : e.op x = some (.slice a0 len cap)) (hy : e.op y = some (.int q i)) (hu : P.underlying t = some (.slice el)) (hs : SizeOf P el s) (hi : 0 ≤ i ∧ i ≤ len)
    {dd : Nat} (hdst : o.dst = some dd) (hd : okD n (some dd) = true) (h : HX P n ds ops ev wk K r (k + 1) ((dd, .slice (if cap = i.toNat then a0 else a0.map (·.add (i.toNat * s))) (len - i.toNat) (cap - i.toNat)) :: e) C) : HX1 P n ds ops ev wk K o r k e C :=
  hx1_pure (by rw [ho]; rfl) hdst hd (fun a w ha => by
    simp [execOp, ho, ha.eval hx, ha.eval hy, Instr.sliceAt, Instr.slice, run_und hu, Instr.sliceBounds, Instr.sliceBound, asIntOf, hi.1, hi.2, run_size hs]) h
/-- s[l:h]. -/
theorem h_sliceFT {t el len cap : Nat} {x y z : Operand} {a0 : Option Addr} {q q2 : IntKind} {i j : Int} {s : Nat} (ho : o.op = .slice t x (some y) (some z) none) (hx : e.op x = some (.slice a0 len cap)) (hy : e.op y = some (.int q i)) (hz : e.op z = some (.int q2 j)) (hu : P.underlying t = some (.slice el)) (hs : SizeOf P el s) (hi : 0 ≤ i ∧ i ≤ j ∧ j ≤ cap)
    {dd : Nat} (hdst : o.dst = some dd) (hd : okD n (some dd) = true) (h : HX P n ds ops ev wk K r (k + 1) ((dd, .slice (if cap = i.toNat then a0 else a0.map (·.add (i.toNat * s))) (j.toNat - i.toNat) (cap - i.toNat)) :: e) C) : HX1 P n ds ops ev wk K o r k e C :=
  hx1_pure (by rw [ho]; rfl) hdst hd (fun a w ha => by
    have h1 : 0 ≤ j := by omega
    have h2 : i ≤ (j.toNat : Int) := by omega
    have h3 : i ≤ max j 0 := by omega
    simp [execOp, ho, ha.eval hx, ha.eval hy, ha.eval hz, Instr.sliceAt, Instr.slice, run_und hu, Instr.sliceBounds, Instr.sliceBound, asIntOf, hi.1, hi.2.2, h1, h3, run_size hs]) h
/-- A number of another kind. -/
theorem h_convInt {src dst : TypeId} {x : Operand} {ds1 : TypeDesc} {q q2 : IntKind} {a : Int} (ho : o.op = .convert src dst x) (hx : e.op x = some (.int q a)) (hu : P.underlying src = some ds1) (hu2 : P.underlying dst = some (.int q2))
    {dd : Nat} (hdst : o.dst = some dd) (hd : okD n (some dd) = true) (h : HX P n ds ops ev wk K r (k + 1) ((dd, .int q2 (q2.wrap a)) :: e) C) : HX1 P n ds ops ev wk K o r k e C :=
  hx1_read (by rw [ho]; rfl) (by rw [ho]; rfl) hdst hd (fun b w ha _ => by
    simp [execOp, ho, ha.eval hx, convert, run_und hu, run_und hu2, Conv.intToInt]) h
end
end Go.Proofs.YtjnnlfeohbidhaaDoor
