import Derived.Test.YtjnnlfeohbidhaaDoorEngB
import Derived.WalkKit
import Derived.IntWalk
namespace Go.Proofs.YtjnnlfeohbidhaaDoor
open Go

/-! ### What a frame's slots hold -/
abbrev Env := List (Nat × Value)
def Env.get : Env → Nat → Option Value
  | [], _ => none
  | (i, v) :: l, k => bif Nat.beq i k then some v else Env.get l k
def Env.op : Env → Operand → Option Value
  | e, .tmp t => e.get t
  | _, .const v => some v
  | _, .global g => some (.pointer (some ⟨g, 0, none⟩))
  | _, .func f => some (.func (.func f) #[] #[])
def Env.ops (e : Env) : List Operand → Option (List Value)
  | [] => some []
  | x :: l => match e.op x, Env.ops e l with
    | some v, some vs => some (v :: vs)
    | _, _ => none
def Env.put (e : Env) : Option Nat → Value → Env
  | some d, v => (d, v) :: e
  | none, _ => e
def okD (n : Nat) : Option Nat → Bool
  | some d => Nat.blt d n
  | none => true

structure Has (n : Nat) (ds : List Deferred) (a : Act) (e : Env) : Prop where
  size : a.tmps.size = n
  defers : a.defers = ds
  get : ∀ k v, e.get k = some v → a.tmps[k]? = some v

theorem Has.eval {n : Nat} {ds : List Deferred} {a : Act} {e : Env} (h : Has n ds a e) {x : Operand} {v : Value} (hx : e.op x = some v) : a.eval x = v := by
  cases x with
  | tmp t =>
    have := h.get t v hx
    show a.tmps.getD t undef = v
    simp [this]
  | const u => exact Option.some.inj hx
  | global g => exact Option.some.inj hx
  | func f => exact Option.some.inj hx

theorem Has.evals {n : Nat} {ds : List Deferred} {a : Act} {e : Env} (h : Has n ds a e) : ∀ {l : List Operand} {vs : List Value}, e.ops l = some vs → l.map a.eval = vs
  | [], _, hx => by cases hx; rfl
  | x :: l, vs, hx => by
    simp only [Env.ops] at hx
    split at hx
    · rename_i v us h1 h2
      cases hx
      simp [h.eval h1, h.evals h2]
    · cases hx

theorem Env.get_cons {i k : Nat} {v : Value} {e : Env} : Env.get ((i, v) :: e) k = if i = k then some v else e.get k := by
  show (bif Nat.beq i k then some v else e.get k) = _
  by_cases h : i = k
  · subst h; simp
  · have : Nat.beq i k = false := by
      cases h' : Nat.beq i k with
      | false => rfl
      | true => exact absurd (Nat.eq_of_beq_eq_true h') h
    simp [this, h]

theorem Has.put {n : Nat} {ds : List Deferred} {a : Act} {e : Env} (h : Has n ds a e) {dst : Option Tmp} (hd : okD n dst = true) (v : Value) : Has n ds (a.put dst v) (e.put dst v) := by
  cases dst with
  | none => exact h
  | some d =>
    have hd' : d < n := by simpa [okD] using hd
    refine ⟨by simp [Act.put, h.size], h.defers, fun k u hk => ?_⟩
    simp only [Env.put, Env.get_cons] at hk
    simp only [Act.put]
    by_cases hdk : d = k
    · subst hdk
      rw [if_pos rfl] at hk
      cases hk
      simp [h.size, hd']
    · rw [if_neg hdk] at hk
      rw [Array.getElem?_setIfInBounds_ne hdk]
      exact h.get k u hk

theorem Has.sub {n : Nat} {ds : List Deferred} {a : Act} {e e' : Env} (h : Has n ds a e) (hs : ∀ k v, e'.get k = some v → e.get k = some v) : Has n ds a e' :=
  ⟨h.size, h.defers, fun k v hk => h.get k v (hs k v hk)⟩

/-- What e' says e says, too. -/
inductive Keep (e : Env) : Env → Prop
  | nil : Keep e []
  | cons {k : Nat} {v : Value} {e' : Env} (h : e.get k = some v) (t : Keep e e') : Keep e ((k, v) :: e')

theorem Keep.get {e e' : Env} (h : Keep e e') : ∀ k v, e'.get k = some v → e.get k = some v := by
  induction h with
  | nil => intro k v hk; cases hk
  | cons h _ ih =>
    intro k v hk
    rw [Env.get_cons] at hk
    split at hk
    · rename_i e0; subst e0; cases hk; exact h
    · exact ih k v hk

/-! ### The walk through a region -/
section
variable {P : Program} {n : Nat} {ds : List Deferred} {ops : Array Oper} {ev wk : Nat → Bool} {K : Env → (World → Prop) → Prop} {r : List Oper} {o : Oper} {k : Nat} {e : Env} {C : World → Prop}

structure HX (P : Program) (n : Nat) (ds : List Deferred) (ops : Array Oper) (ev wk : Nat → Bool) (K : Env → (World → Prop) → Prop) (r : List Oper) (k : Nat) (e : Env) (C : World → Prop) : Prop where
  out : ∀ a, Has n ds a e → TX P ops ev wk (fun a' C' => ∃ e', Has n ds a' e' ∧ K e' C') r k a C

/-- The next operation is carried out. -/
structure HX1 (P : Program) (n : Nat) (ds : List Deferred) (ops : Array Oper) (ev wk : Nat → Bool) (K : Env → (World → Prop) → Prop) (o : Oper) (r : List Oper) (k : Nat) (e : Env) (C : World → Prop) : Prop where
  out : ∀ a, Has n ds a e → Region.wanted o (yielded ops a.tmps) = true →
    if ev k = true then ∀ w, C w → o.wp P a w (fun a' w' => ∃ C' : World → Prop, C' w' ∧ (wk k = true → ∀ x, C' x → C x) ∧ TX P ops ev wk (fun a' C' => ∃ e', Has n ds a' e' ∧ K e' C') r (k + 1) a' C') QN
    else ∃ v, YldK P ops o v a C ∧ TX P ops ev wk (fun a' C' => ∃ e', Has n ds a' e' ∧ K e' C') r (k + 1) (a.put o.dst v) C

theorem hx_nil (h : K e C) : HX P n ds ops ev wk K [] k e C := ⟨fun _ ha => ⟨e, ha, h⟩⟩

theorem hx_plain (hg : o.guard = none) (h : HX1 P n ds ops ev wk K o r k e C) : HX P n ds ops ev wk K (o :: r) k e C := ⟨fun a ha => by
  have hw : Region.wanted o (yielded ops a.tmps) = true := by simp [Region.wanted, hg]
  simp only [TX]
  rw [if_pos hw]
  exact h.out a ha hw⟩

theorem yielded_of {a : Act} (ha : Has n ds a e) {g t : Nat} {b : Bool} (hd : (ops[g]?).bind (·.dst) = some t) (ht : e.get t = some (.bool b)) : yielded ops a.tmps g = some b := by
  unfold yielded
  rw [hd]
  simp [ha.get _ _ ht]

theorem hx_yes {g t : Nat} {want : Bool} (hg : o.guard = some (g, want)) (hd : (ops[g]?).bind (·.dst) = some t) (ht : e.get t = some (.bool want)) (h : HX1 P n ds ops ev wk K o r k e C) :
    HX P n ds ops ev wk K (o :: r) k e C := ⟨fun a ha => by
  have hw : Region.wanted o (yielded ops a.tmps) = true := by simp [Region.wanted, hg, yielded_of ha hd ht]
  simp only [TX]
  rw [if_pos hw]
  exact h.out a ha hw⟩

theorem hx_skip {g t : Nat} {b want : Bool} {dd : Nat} (hg : o.guard = some (g, want)) (hd : (ops[g]?).bind (·.dst) = some t) (ht : e.get t = some (.bool b)) (hb : (b == want) = false) (hdst : o.dst = some dd) (hdd : okD n (some dd) = true) (h : HX P n ds ops ev wk K r (k + 1) ((dd, undef) :: e) C) :
    HX P n ds ops ev wk K (o :: r) k e C := ⟨fun a ha => by
  have hw : ¬ Region.wanted o (yielded ops a.tmps) = true := by
    simp only [Region.wanted, hg, yielded_of ha hd ht]
    intro h'
    have : b = want := by simpa using h'
    simp [this] at hb
  simp only [TX]
  rw [if_neg hw]
  exact h.out _ (by rw [hdst]; exact ha.put hdd _)⟩

theorem hx_skipU {g t : Nat} {want : Bool} {dd : Nat} (hg : o.guard = some (g, want)) (hd : (ops[g]?).bind (·.dst) = some t) (ht : e.get t = some undef) (hdst : o.dst = some dd) (hdd : okD n (some dd) = true) (h : HX P n ds ops ev wk K r (k + 1) ((dd, undef) :: e) C) :
    HX P n ds ops ev wk K (o :: r) k e C := ⟨fun a ha => by
  have hw : ¬ Region.wanted o (yielded ops a.tmps) = true := by
    have : yielded ops a.tmps g = none := by
      unfold yielded
      rw [hd]
      simp [ha.get _ _ ht, undef]
    simp [Region.wanted, hg, this]
  simp only [TX]
  rw [if_neg hw]
  exact h.out _ (by rw [hdst]; exact ha.put hdd _)⟩

/-- A slot that holds a test is looked at. -/
theorem hx_case {t : Nat} {b : Bool} (ht : e.get t = some (.bool b)) (h1 : b = true → HX P n ds ops ev wk K r k ((t, .bool true) :: e) C) (h2 : b = false → HX P n ds ops ev wk K r k ((t, .bool false) :: e) C) :
    HX P n ds ops ev wk K r k e C := ⟨fun a ha => by
  have key : ∀ c, b = c → Has n ds a ((t, .bool c) :: e) := fun c hc => ⟨ha.size, ha.defers, fun j v hj => by
    rw [Env.get_cons] at hj
    split at hj
    · rename_i e0; subst e0; cases hj; rw [← hc]; exact ha.get _ _ ht
    · exact ha.get j v hj⟩
  cases hb : b with
  | true => exact (h1 hb).out a (key _ hb)
  | false => exact (h2 hb).out a (key _ hb)⟩

theorem hx_caseD {t : Nat} {p : Prop} [Decidable p] (ht : e.get t = some (.bool (decide p))) (h1 : p → HX P n ds ops ev wk K r k ((t, .bool true) :: e) C) (h2 : ¬ p → HX P n ds ops ev wk K r k ((t, .bool false) :: e) C) :
    HX P n ds ops ev wk K r k e C :=
  hx_case ht (fun h => h1 (of_decide_eq_true h)) (fun h => h2 (of_decide_eq_false h))

/-- A test that stands ahead of the next operation is looked at. -/
theorem hx_gcase {g t : Nat} {b want : Bool} (_hg : o.guard = some (g, want)) (_hd : (ops[g]?).bind (·.dst) = some t) (ht : e.get t = some (.bool b)) (h1 : b = true → HX P n ds ops ev wk K (o :: r) k ((t, .bool true) :: e) C) (h2 : b = false → HX P n ds ops ev wk K (o :: r) k ((t, .bool false) :: e) C) :
    HX P n ds ops ev wk K (o :: r) k e C := hx_case ht h1 h2
theorem hx_gcaseD {g t : Nat} {p : Prop} [Decidable p] {want : Bool} (_hg : o.guard = some (g, want)) (_hd : (ops[g]?).bind (·.dst) = some t) (ht : e.get t = some (.bool (decide p))) (h1 : p → HX P n ds ops ev wk K (o :: r) k ((t, .bool true) :: e) C) (h2 : ¬ p → HX P n ds ops ev wk K (o :: r) k ((t, .bool false) :: e) C) :
    HX P n ds ops ev wk K (o :: r) k e C := hx_caseD ht h1 h2
theorem hx_gT {g t : Nat} {p : Prop} [Decidable p] {want : Bool} (_hg : o.guard = some (g, want)) (_hd : (ops[g]?).bind (·.dst) = some t) (ht : e.get t = some (.bool (decide p))) (hp : p) (h1 : HX P n ds ops ev wk K (o :: r) k ((t, .bool true) :: e) C) :
    HX P n ds ops ev wk K (o :: r) k e C := hx_caseD ht (fun _ => h1) (fun h => absurd hp h)
theorem hx_gF {g t : Nat} {p : Prop} [Decidable p] {want : Bool} (_hg : o.guard = some (g, want)) (_hd : (ops[g]?).bind (·.dst) = some t) (ht : e.get t = some (.bool (decide p))) (hp : ¬ p) (h2 : HX P n ds ops ev wk K (o :: r) k ((t, .bool false) :: e) C) :
    HX P n ds ops ev wk K (o :: r) k e C := hx_caseD ht (fun h => absurd h hp) (fun _ => h2)

theorem hx_keep {e' : Env} (hk : Keep e e') (h : HX P n ds ops ev wk K r k e' C) : HX P n ds ops ev wk K r k e C := ⟨fun a ha => h.out a (ha.sub hk.get)⟩

theorem mHX (h : HX P n ds ops ev wk K r k e C) : HX P n ds ops ev wk K r k e C := h
theorem mHX1 (h : HX1 P n ds ops ev wk K o r k e C) : HX1 P n ds ops ev wk K o r k e C := h
/-! ### by kind of operation -/
theorem hx1_pure {v : Value} {dd : Nat} (hp : pureB o.op = true) (hdst : o.dst = some dd) (hd : okD n (some dd) = true) (hrun : ∀ a w, Has n ds a e → (execOp a.eval o).run P w = .ok (.value v) w)
    (h : HX P n ds ops ev wk K r (k + 1) ((dd, v) :: e) C) : HX1 P n ds ops ev wk K o r k e C := ⟨fun a ha hw => by
  have hput : Has n ds (a.put o.dst v) ((dd, v) :: e) := by rw [hdst]; exact ha.put hd v
  split
  · intro w hC
    unfold Oper.wp
    rw [hrun a w ha]
    exact ⟨C, hC, fun _ _ h => h, h.out _ hput⟩
  · exact ⟨v, by unfold YldK; rw [if_pos hp]; exact .inl ⟨hw, fun w _ => hrun a w ha⟩, h.out _ hput⟩⟩

theorem hx1_read {v : Value} {dd : Nat} (hp : pureB o.op = false) (hc : callB o.op = false) (hdst : o.dst = some dd) (hd : okD n (some dd) = true) (hrun : ∀ a w, Has n ds a e → C w → (execOp a.eval o).run P w = .ok (.value v) w)
    (h : HX P n ds ops ev wk K r (k + 1) ((dd, v) :: e) C) : HX1 P n ds ops ev wk K o r k e C := ⟨fun a ha hw => by
  have hput : Has n ds (a.put o.dst v) ((dd, v) :: e) := by rw [hdst]; exact ha.put hd v
  split
  · intro w hC
    unfold Oper.wp
    rw [hrun a w ha hC]
    exact ⟨C, hC, fun _ _ h => h, h.out _ hput⟩
  · exact ⟨v, by unfold YldK; rw [if_neg (by simp [hp]), if_neg (by simp [hc])]; exact .inl ⟨hw, fun w hC => hrun a w ha hC⟩, h.out _ hput⟩⟩

theorem hx1_event (hev : ev k = true) (hrun : ∀ a w, Has n ds a e → C w → o.wp P a w (fun a' w' => ∃ (C' : World → Prop) (e' : Env), C' w' ∧ (wk k = true → ∀ x, C' x → C x) ∧ Has n ds a' e' ∧ HX P n ds ops ev wk K r (k + 1) e' C') QN) :
    HX1 P n ds ops ev wk K o r k e C := ⟨fun a ha _ => by
  rw [if_pos hev]
  exact fun w hC => Oper.wp_mono (fun a' w' ⟨C', e', h1, h2, h3, h4⟩ => ⟨C', h1, h2, h4.out a' h3⟩) (hrun a w ha hC)⟩
theorem hx1_conv {C' : World → Prop} (hev : ev k = true) (hwk : wk k = false) (hc : ∀ w, C w → C' w) (h : HX1 P n ds ops ev wk K o r k e C') : HX1 P n ds ops ev wk K o r k e C := ⟨fun a ha hw => by
  have h1 := h.out a ha hw
  rw [if_pos hev] at h1 ⊢
  exact fun w hC => Oper.wp_mono (fun a' w' ⟨D, h2, _, h4⟩ => ⟨D, h2, (fun h => by rw [hwk] at h; cases h), h4⟩) (h1 w (hc w hC))⟩
end
end Go.Proofs.YtjnnlfeohbidhaaDoor
