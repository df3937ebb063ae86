import Derived.Test.YtjnnlfeohbidhaaDoorEngE
import Derived.Deep.LoopGhost
namespace Go.Proofs.YtjnnlfeohbidhaaDoor
open Go

section
variable {P : Program} {n : Nat} {ds : List Deferred} {Q : Exit → Act → World → Prop} {e : Env} {C : World → Prop} {w0 : World} {F0 : Nat → Prop} {L : List Asn}

/-! ### The walk through code -/
structure HC (P : Program) (n : Nat) (ds : List Deferred) (c : Code) (Q : Exit → Act → World → Prop) (e : Env) (C : World → Prop) : Prop where
  out : ∀ a w, Has n ds a e → C w → c.wp P Q a w
structure HQ (n : Nat) (ds : List Deferred) (Q : Exit → Act → World → Prop) (x : Exit) (e : Env) (C : World → Prop) : Prop where
  out : ∀ a w, Has n ds a e → C w → Q x a w

theorem tx_conv {l : List Oper} {ev wk : Nat → Bool} : ∀ (l' : List Oper) (k : Nat) (a : Act) (C : World → Prop), TX P l.toArray ev wk (fun a' C' => ∃ e', Has n ds a' e' ∧ HQ n ds Q .normal e' C') l' k a C → TX P l.toArray ev wk (fun a' C' => ∀ w', C' w' → Q .normal a' w') l' k a C := by
  intro l'
  induction l' with
  | nil => intro k a C ⟨e', h1, h2⟩ w' hw'; exact h2.out a w' h1 hw'
  | cons o l' ih =>
    intro k a C h
    simp only [TX] at h ⊢
    split
    · rename_i hw
      rw [if_pos hw] at h
      split at h
      · rename_i hev
        rw [if_pos hev]
        exact fun w hC => Oper.wp_mono (fun a' w' ⟨C', h1, h2, h3⟩ => ⟨C', h1, h2, ih _ _ _ h3⟩) (h w hC)
      · rename_i hev
        rw [if_neg hev]
        obtain ⟨v, h1, h2⟩ := h
        exact ⟨v, h1, ih _ _ _ h2⟩
    · rename_i hw
      rw [if_neg hw] at h
      exact ih _ _ _ h

theorem hc_draw {id : Nat} {l : List Oper} {ev wk : Nat → Bool} (hm : P.follows .mixedOrders = true) (hB : chkB l.toArray ev wk = true)
    (h : HX P n ds l.toArray ev wk (fun e' C' => HQ n ds Q .normal e' C') l 0 e (St w0 F0 L)) : HC P n ds (Code.region id l.toArray true) Q e (St w0 F0 L) := ⟨fun a w ha hC => by
  refine wp_region_tx (ev := ev) (wk := wk) (C := St w0 F0 L) hm hB (hC.same (.drew w _ _)) ?_
  exact tx_conv _ _ _ _ (h.out a ha)⟩

theorem hc_lex {id : Nat} {l : List Oper}
    (h : HX P n ds l.toArray (fun _ => true) (fun _ => false) (fun e' C' => HQ n ds Q .normal e' C') l 0 e C) : HC P n ds (Code.region id l.toArray false) Q e C := ⟨fun a w ha hC => by
  refine wp_region_tx0 (ev := fun _ => true) (wk := fun _ => false) (C := C) hC ?_
  exact tx_conv _ _ _ _ (h.out a ha)⟩

/-- What is an event: what neither computes nor reads. -/
def readB : Op → Bool
  | .load .. => true
  | .lookup .. => true
  | _ => false
def evK (ops : Array Oper) (i : Nat) : Bool := match ops[i]? with
  | some o => !pureB o.op && !readB o.op
  | none => false
/-- .. calls are none. -/
def evQ (ops : Array Oper) (i : Nat) : Bool := match ops[i]? with
  | some o => !pureB o.op && !readB o.op && !callB o.op
  | none => false
def wkK (ops : Array Oper) (i : Nat) : Bool := match ops[i]? with
  | some o => match o.op with
    | .box .. => true
    | .alloc .. => true
    | .makeMap .. => true
    | _ => false
  | none => false
theorem hc_draw0 {id : Nat} {l : List Oper} (hm : P.follows .mixedOrders = true) (hB : chkB l.toArray (evK l.toArray) (wkK l.toArray) = true)
    (h : HX P n ds l.toArray (evK l.toArray) (wkK l.toArray) (fun e' C' => HQ n ds Q .normal e' C') l 0 e (St w0 F0 L)) : HC P n ds (Code.region id l.toArray true) Q e (St w0 F0 L) := hc_draw hm hB h
theorem hc_drawQ {id : Nat} {l : List Oper} (hm : P.follows .mixedOrders = true) (hB : chkB l.toArray (evQ l.toArray) (wkK l.toArray) = true)
    (h : HX P n ds l.toArray (evQ l.toArray) (wkK l.toArray) (fun e' C' => HQ n ds Q .normal e' C') l 0 e (St w0 F0 L)) : HC P n ds (Code.region id l.toArray true) Q e (St w0 F0 L) := hc_draw hm hB h
theorem hc_seq {x y : Code} (h : HC P n ds x (Exit.then (y.wp P Q) Q) e C) : HC P n ds (Code.seq x y) Q e C := ⟨fun a w ha hC => wp_seq (h.out a w ha hC)⟩
theorem hq_then {y : Code} (h : HC P n ds y Q e C) : HQ n ds (Exit.then (y.wp P Q) Q) .normal e C := ⟨h.out⟩
theorem hq_thenK {K : Act → World → Prop} (h : ∀ a w, Has n ds a e → C w → K a w) : HQ n ds (Exit.then K Q) .normal e C := ⟨h⟩
theorem hq_ret_then {K : Act → World → Prop} (h : HQ n ds Q .ret e C) : HQ n ds (Exit.then K Q) .ret e C := ⟨h.out⟩
theorem hq_exit_then {K : Act → World → Prop} {i : Nat} (h : HQ n ds Q (.exit i) e C) : HQ n ds (Exit.then K Q) (.exit i) e C := ⟨h.out⟩
theorem hq_ret_block {id : Nat} (h : HQ n ds Q .ret e C) : HQ n ds (Exit.inBlock id Q) .ret e C := ⟨h.out⟩
theorem hq_norm_block {id : Nat} (h : HQ n ds Q .normal e C) : HQ n ds (Exit.inBlock id Q) .normal e C := ⟨h.out⟩
theorem hq_exit_block {id : Nat} (h : HQ n ds Q .normal e C) : HQ n ds (Exit.inBlock id Q) (.exit id) e C := ⟨fun a w ha hC => by
  show (if id = id then _ else _)
  rw [if_pos rfl]
  exact h.out a w ha hC⟩
theorem hq_exit_other {id i : Nat} (hne : Nat.beq i id = false) (h : HQ n ds Q (.exit i) e C) : HQ n ds (Exit.inBlock id Q) (.exit i) e C := ⟨fun a w ha hC => by
  show (if i = id then _ else _)
  rw [if_neg (by intro e0; rw [e0, Nat.beq_refl] at hne; cases hne)]
  exact h.out a w ha hC⟩
theorem hc_block {id : Nat} {c : Code} (h : HC P n ds c (Exit.inBlock id Q) e C) : HC P n ds (Code.block id c) Q e C := ⟨fun a w ha hC => wp_block (h.out a w ha hC)⟩
theorem hc_skip (h : HQ n ds Q .normal e C) : HC P n ds Code.skip Q e C := ⟨fun a w ha hC => wp_skip (h.out a w ha hC)⟩
theorem hc_ret (h : HQ n ds Q .ret e C) : HC P n ds Code.ret Q e C := ⟨fun a w ha hC => wp_ret (h.out a w ha hC)⟩
theorem hc_exit {id : Nat} (h : HQ n ds Q (.exit id) e C) : HC P n ds (Code.exit id) Q e C := ⟨fun a w ha hC => wp_exit (h.out a w ha hC)⟩
theorem hc_condT {c : Operand} {x y : Code} (hc : e.op c = some (.bool true)) (h : HC P n ds x Q e C) : HC P n ds (Code.cond c x y) Q e C := ⟨fun a w ha hC => wp_cond_true (ha.eval hc) (h.out a w ha hC)⟩
theorem hc_condF {c : Operand} {x y : Code} (hc : e.op c = some (.bool false)) (h : HC P n ds y Q e C) : HC P n ds (Code.cond c x y) Q e C := ⟨fun a w ha hC => wp_cond_false (ha.eval hc) (h.out a w ha hC)⟩
theorem hc_cond {c : Operand} {x y : Code} {b : Bool} (hc : e.op c = some (.bool b)) (h1 : b = true → HC P n ds x Q e C) (h2 : b = false → HC P n ds y Q e C) : HC P n ds (Code.cond c x y) Q e C := ⟨fun a w ha hC => by
  cases b with
  | true => exact wp_cond_true (ha.eval hc) ((h1 rfl).out a w ha hC)
  | false => exact wp_cond_false (ha.eval hc) ((h2 rfl).out a w ha hC)⟩
theorem hc_condD {c : Operand} {x y : Code} {p : Prop} [Decidable p] (hc : e.op c = some (.bool (decide p))) (h1 : p → HC P n ds x Q e C) (h2 : ¬ p → HC P n ds y Q e C) : HC P n ds (Code.cond c x y) Q e C :=
  hc_cond hc (fun h => h1 (of_decide_eq_true h)) (fun h => h2 (of_decide_eq_false h))
theorem hc_condDT {c : Operand} {x y : Code} {p : Prop} [Decidable p] (hc : e.op c = some (.bool (decide p))) (hp : p) (h1 : HC P n ds x Q e C) : HC P n ds (Code.cond c x y) Q e C :=
  hc_condD hc (fun _ => h1) (fun h => absurd hp h)
theorem hc_condDF {c : Operand} {x y : Code} {p : Prop} [Decidable p] (hc : e.op c = some (.bool (decide p))) (hp : ¬ p) (h2 : HC P n ds y Q e C) : HC P n ds (Code.cond c x y) Q e C :=
  hc_condD hc (fun h => absurd h hp) (fun _ => h2)
theorem hc_keep {c : Code} {e' : Env} (hk : Keep e e') (h : HC P n ds c Q e' C) : HC P n ds c Q e C := ⟨fun a w ha hC => h.out a w (ha.sub hk.get) hC⟩
theorem hq_keep {x : Exit} {e' : Env} (hk : Keep e e') (h : HQ n ds Q x e' C) : HQ n ds Q x e C := ⟨fun a w ha hC => h.out a w (ha.sub hk.get) hC⟩
theorem hc_st {c : Code} {C' : World → Prop} (hc : ∀ w, C w → C' w) (h : HC P n ds c Q e C') : HC P n ds c Q e C := ⟨fun a w ha hC => h.out a w ha (hc w hC)⟩
theorem hq_st {x : Exit} {C' : World → Prop} (hc : ∀ w, C w → C' w) (h : HQ n ds Q x e C') : HQ n ds Q x e C := ⟨fun a w ha hC => h.out a w ha (hc w hC)⟩

theorem mHC {c : Code} (h : HC P n ds c Q e C) : HC P n ds c Q e C := h
theorem mHQ {x : Exit} (h : HQ n ds Q x e C) : HQ n ds Q x e C := h
/-- Pieces are opened. -/
theorem hc_open {c : Code} {A : Asn} {L' : List Asn} {X : Type} {M : X → List Asn} (hp : Pull L A L') (ho : ∀ w w0 F0 R, St w0 F0 (A :: R) w → ∃ x, St w0 F0 (M x ++ R) w) (h : ∀ x, HC P n ds c Q e (St w0 F0 (M x ++ L'))) : HC P n ds c Q e (St w0 F0 L) := ⟨fun a w ha hC => by
  obtain ⟨x, hx⟩ := ho w w0 F0 L' (hC.perm hp.perm)
  exact (h x).out a w ha hx⟩
theorem hq_open {x : Exit} {A : Asn} {L' : List Asn} {X : Type} {M : X → List Asn} (hp : Pull L A L') (ho : ∀ w w0 F0 R, St w0 F0 (A :: R) w → ∃ x, St w0 F0 (M x ++ R) w) (h : ∀ y, HQ n ds Q x e (St w0 F0 (M y ++ L'))) : HQ n ds Q x e (St w0 F0 L) := ⟨fun a w ha hC => by
  obtain ⟨y, hy⟩ := ho w w0 F0 L' (hC.perm hp.perm)
  exact (h y).out a w ha hy⟩
/-- Pieces are put together. -/
theorem hc_shut {c : Code} {A : Asn} {L' M : List Asn} (hp : Pulls L M L') (ho : ∀ w w0 F0 R, St w0 F0 (M ++ R) w → St w0 F0 (A :: R) w) (h : HC P n ds c Q e (St w0 F0 (A :: L'))) : HC P n ds c Q e (St w0 F0 L) := ⟨fun a w ha hC => h.out a w ha (ho w w0 F0 L' (hC.perm hp.perm))⟩
theorem hq_shut {x : Exit} {A : Asn} {L' M : List Asn} (hp : Pulls L M L') (ho : ∀ w w0 F0 R, St w0 F0 (M ++ R) w → St w0 F0 (A :: R) w) (h : HQ n ds Q x e (St w0 F0 (A :: L'))) : HQ n ds Q x e (St w0 F0 L) := ⟨fun a w ha hC => h.out a w ha (ho w w0 F0 L' (hC.perm hp.perm))⟩
/-- What memory tells. -/
theorem hc_know {c : Code} {φ : Prop} (hk : ∀ w, C w → φ) (h : φ → HC P n ds c Q e C) : HC P n ds c Q e C := ⟨fun a w ha hC => (h (hk w hC)).out a w ha hC⟩

/-- A round has come to its end. -/
def RoundTo {X : Type} (n : Nat) (ds : List Deferred) (w0 : World) (F0 : Nat → Prop) (en : X → Env) (M : X → List Asn) (φ : X → Prop) (μ : X → Nat) (x : X) : Act → World → Prop := fun a' w' => ∃ y, μ y < μ x ∧ φ y ∧ Has n ds a' (en y) ∧ St w0 F0 (M y) w'
/-- A loop, its rounds counted by μ. -/
theorem hc_loop {c : Code} {X : Type} (en : X → Env) (M : X → List Asn) (φ : X → Prop) (μ : X → Nat) (x0 : X) (hk : Keep e (en x0)) (hφ : φ x0) (hst : ∀ w, St w0 F0 L w → St w0 F0 (M x0) w)
    (round : ∀ x, φ x → HC P n ds c (Exit.then (RoundTo n ds w0 F0 en M φ μ x) Q) (en x) (St w0 F0 (M x))) : HC P n ds (Code.loop c) Q e (St w0 F0 L) := ⟨fun a w ha hC => by
  refine wp_loop_ghost (fun m a w => ∃ x, μ x = m ∧ φ x ∧ Has n ds a (en x) ∧ St w0 F0 (M x) w) (μ x0) ⟨x0, rfl, hφ, ha.sub hk.get, hst w hC⟩ ?_
  rintro m a w ⟨x, rfl, hφ, ha, hC⟩
  refine wp_mono ((round x hφ).out a w ha hC) ?_
  intro ex a' w' hq
  cases ex with
  | normal =>
    obtain ⟨y, h1, h2, h3, h4⟩ := hq
    exact ⟨μ y, h1, y, rfl, h2, h3, h4⟩
  | _ => exact hq⟩
theorem hq_round {X : Type} {en : X → Env} {M : X → List Asn} {φ : X → Prop} {μ : X → Nat} {x : X} (y : X) (hμ : μ y < μ x) (hφ : φ y) (hk : Keep e (en y)) (hst : ∀ w, St w0 F0 L w → St w0 F0 (M y) w) :
    HQ n ds (Exit.then (RoundTo n ds w0 F0 en M φ μ x) Q) .normal e (St w0 F0 L) := ⟨fun _ w ha hC => ⟨y, hμ, hφ, ha.sub hk.get, hst w hC⟩⟩

/-! ### Ways that meet again -/
/-- Where the exit 'id' is taken, the frame and the pieces are told by some y. -/
def QX {Y : Type} (n : Nat) (ds : List Deferred) (w0 : World) (F0 : Nat → Prop) (id : Nat) (en : Y → Env) (M : Y → List Asn) (ψ : Y → Prop) (Q : Exit → Act → World → Prop) : Exit → Act → World → Prop
  | .exit j, a, w => if j = id then ∃ y, ψ y ∧ Has n ds a (en y) ∧ St w0 F0 (M y) w else Q (.exit j) a w
  | ex, a, w => Q ex a w
theorem hq_cut {Y : Type} {id : Nat} {en : Y → Env} {M : Y → List Asn} {ψ : Y → Prop} (y : Y) (hψ : ψ y) (hk : Keep e (en y)) (hst : ∀ w, St w0 F0 L w → St w0 F0 (M y) w) : HQ n ds (QX n ds w0 F0 id en M ψ Q) (.exit id) e (St w0 F0 L) := ⟨fun a w ha hC => by
  show (if id = id then _ else _)
  rw [if_pos rfl]
  exact ⟨y, hψ, ha.sub hk.get, hst w hC⟩⟩
theorem hq_cut_ret {Y : Type} {id : Nat} {en : Y → Env} {M : Y → List Asn} {ψ : Y → Prop} (h : HQ n ds Q .ret e C) : HQ n ds (QX n ds w0 F0 id en M ψ Q) .ret e C := ⟨h.out⟩
theorem hq_cut_exit {Y : Type} {id j : Nat} {en : Y → Env} {M : Y → List Asn} {ψ : Y → Prop} (hj : Nat.beq j id = false) (h : HQ n ds Q (.exit j) e C) : HQ n ds (QX n ds w0 F0 id en M ψ Q) (.exit j) e C := ⟨fun a w ha hC => by
  show (if j = id then _ else _)
  rw [if_neg (by intro e0; rw [e0, Nat.beq_refl] at hj; cases hj)]
  exact h.out a w ha hC⟩
theorem hc_cut {Y : Type} {c : Code} {id : Nat} (en : Y → Env) (M : Y → List Asn) (ψ : Y → Prop) (h : HC P n ds c (QX n ds w0 F0 id en M ψ Q) e (St w0 F0 L)) (rest : ∀ y, ψ y → HQ n ds Q (.exit id) (en y) (St w0 F0 (M y))) : HC P n ds c Q e (St w0 F0 L) := ⟨fun a w ha hC => by
  refine wp_mono (h.out a w ha hC) ?_
  intro ex a' w' hq
  cases ex with
  | exit j =>
    by_cases hj : j = id
    · subst hj
      have hq' : (if j = j then ∃ y, ψ y ∧ Has n ds a' (en y) ∧ St w0 F0 (M y) w' else Q (.exit j) a' w') := hq
      rw [if_pos rfl] at hq'
      obtain ⟨y, h1, h2, h3⟩ := hq'
      exact (rest y h1).out a' w' h2 h3
    · have hq' : (if j = id then ∃ y, ψ y ∧ Has n ds a' (en y) ∧ St w0 F0 (M y) w' else Q (.exit j) a' w') := hq
      rwa [if_neg hj] at hq'
  | _ => exact hq⟩
def MeetTo {Y : Type} (n : Nat) (ds : List Deferred) (w0 : World) (F0 : Nat → Prop) (en : Y → Env) (M : Y → List Asn) (ψ : Y → Prop) : Act → World → Prop := fun a w => ∃ y, ψ y ∧ Has n ds a (en y) ∧ St w0 F0 (M y) w
/-- Two ways through x meet ahead of z. -/
theorem hc_meet {Y : Type} {x z : Code} (en : Y → Env) (M : Y → List Asn) (ψ : Y → Prop) (h : HC P n ds x (Exit.then (MeetTo n ds w0 F0 en M ψ) Q) e (St w0 F0 L)) (rest : ∀ y, ψ y → HC P n ds z Q (en y) (St w0 F0 (M y))) : HC P n ds (Code.seq x z) Q e (St w0 F0 L) :=
  hc_seq ⟨fun a w ha hC => wp_mono (h.out a w ha hC) fun ex a' w' hq => by
    cases ex with
    | normal =>
      obtain ⟨y, h1, h2, h3⟩ := hq
      exact (rest y h1).out a' w' h2 h3
    | _ => exact hq⟩
theorem hq_met {Y : Type} {en : Y → Env} {M : Y → List Asn} {ψ : Y → Prop} (y : Y) (hψ : ψ y) (hk : Keep e (en y)) (hst : ∀ w, St w0 F0 L w → St w0 F0 (M y) w) : HQ n ds (Exit.then (MeetTo n ds w0 F0 en M ψ) Q) .normal e (St w0 F0 L) := ⟨fun _ w ha hC => ⟨y, hψ, ha.sub hk.get, hst w hC⟩⟩

/-! ### A whole function -/
def envOf : Nat → List Value → Env
  | _, [] => []
  | k, v :: l => (k, v) :: envOf (k + 1) l
theorem envOf_get : ∀ (l : List Value) (i k : Nat) (v : Value), (envOf i l).get k = some v → i ≤ k ∧ l[k - i]? = some v
  | [], _, _, _, h => by cases h
  | u :: l, i, k, v, h => by
    simp only [envOf, Env.get_cons] at h
    split at h
    · rename_i e0; subst e0; cases h; simp
    · rename_i hne
      obtain ⟨h1, h2⟩ := envOf_get l (i + 1) k v h
      refine ⟨by omega, ?_⟩
      rw [show k - i = (k - (i + 1)) + 1 by omega]
      simpa using h2

def bodyR (w : World) (F : Nat → Prop) (post : Value → List Asn → Prop) : Ending → World → Prop := fun en w' => ∃ v M, en = .returned v ∧ post v M ∧ St w F M w'

theorem spec_at {f : FuncId} {fn : Func} {c : Code} {args : List Value} {pre : List Asn} {post : Value → List Asn → Prop} {w : World} {F : Nat → Prop} (hf : P.funcs[f]? = some fn) (hb : fn.body = some c) (hn : fn.ntmps = n) (hlen : args.length ≤ n) (hs : Star w pre F)
    (h : HC P n [] c (bodyPost P fn (bodyR w F post)) (envOf 0 args) (St w F pre)) : Calls P f args.toArray w (bodyR w F post) := by
  refine calls_of_wp hf hb (h.out _ _ ⟨?_, rfl, fun k v hk => ?_⟩ (.start hs))
  · simp [hn]; omega
  · obtain ⟨_, h2⟩ := envOf_get _ _ _ _ hk
    have hlt : k - 0 < args.length := by
      rcases Nat.lt_or_ge (k - 0) args.length with h | h
      · exact h
      · simp only [Nat.sub_zero] at h h2; rw [List.getElem?_eq_none h] at h2; cases h2
    have hlt' : k < args.length := by omega
    rw [Nat.sub_zero] at h2
    rw [Array.getElem?_append_left (by simpa using hlt')]
    simpa using h2
theorem spec_of {f : FuncId} {fn : Func} {c : Code} {args : List Value} {pre : List Asn} {post : Value → List Asn → Prop} (hf : P.funcs[f]? = some fn) (hb : fn.body = some c) (hn : fn.ntmps = n) (hlen : args.length ≤ n)
    (h : ∀ w F, HC P n [] c (bodyPost P fn (bodyR w F post)) (envOf 0 args) (St w F pre)) : Spec P f args pre post := fun w F hs => spec_at hf hb hn hlen hs (h w F)

theorem hq_ret0 {fn : Func} {x : Exit} {post : Value → List Asn → Prop} {M : List Asn} (hx : x = .normal ∨ x = .ret) (hr : fn.results = #[]) (hp : post (.tuple #[]) M) (hst : ∀ w, St w0 F0 L w → St w0 F0 M w) :
    HQ n [] (bodyPost P fn (bodyR w0 F0 post)) x e (St w0 F0 L) := ⟨fun a w ha hC => by
  have hrun : (results fn a.tmps).run P w = .ok (.tuple #[]) w := by simp [results, hr]
  have : bodyR w0 F0 post (.returned (.tuple #[])) w := ⟨_, M, rfl, hp, hst w hC⟩
  rcases hx with rfl | rfl
  · exact ⟨ha.defers, _, hrun, this⟩
  · exact ⟨ha.defers, _, hrun, this⟩⟩
theorem hq_ret1 {fn : Func} {x : Exit} {t : Nat} {v : Value} {post : Value → List Asn → Prop} {M : List Asn} (hx : x = .normal ∨ x = .ret) (hr : fn.results = #[.tmp t]) (hv : e.get t = some v) (hp : post v M) (hst : ∀ w, St w0 F0 L w → St w0 F0 M w) :
    HQ n [] (bodyPost P fn (bodyR w0 F0 post)) x e (St w0 F0 L) := ⟨fun a w ha hC => by
  have hrun : (results fn a.tmps).run P w = .ok v w := by simp [results, hr, ha.get _ _ hv]
  have : bodyR w0 F0 post (.returned v) w := ⟨_, M, rfl, hp, hst w hC⟩
  rcases hx with rfl | rfl
  · exact ⟨ha.defers, _, hrun, this⟩
  · exact ⟨ha.defers, _, hrun, this⟩⟩
theorem hq_ret2 {fn : Func} {x : Exit} {t t2 : Nat} {v v2 : Value} {post : Value → List Asn → Prop} {M : List Asn} (hx : x = .normal ∨ x = .ret) (hr : fn.results = #[.tmp t, .tmp t2]) (hv : e.get t = some v) (hv2 : e.get t2 = some v2) (hp : post (.tuple #[v, v2]) M) (hst : ∀ w, St w0 F0 L w → St w0 F0 M w) :
    HQ n [] (bodyPost P fn (bodyR w0 F0 post)) x e (St w0 F0 L) := ⟨fun a w ha hC => by
  have hrun : (results fn a.tmps).run P w = .ok (.tuple #[v, v2]) w := by simp [results, hr, ha.get _ _ hv, ha.get _ _ hv2]
  have : bodyR w0 F0 post (.returned (.tuple #[v, v2])) w := ⟨_, M, rfl, hp, hst w hC⟩
  rcases hx with rfl | rfl
  · exact ⟨ha.defers, _, hrun, this⟩
  · exact ⟨ha.defers, _, hrun, this⟩⟩
theorem hq_ret3 {fn : Func} {x : Exit} {t t2 t3 : Nat} {v v2 v3 : Value} {post : Value → List Asn → Prop} {M : List Asn} (hx : x = .normal ∨ x = .ret) (hr : fn.results = #[.tmp t, .tmp t2, .tmp t3]) (hv : e.get t = some v) (hv2 : e.get t2 = some v2) (hv3 : e.get t3 = some v3) (hp : post (.tuple #[v, v2, v3]) M) (hst : ∀ w, St w0 F0 L w → St w0 F0 M w) :
    HQ n [] (bodyPost P fn (bodyR w0 F0 post)) x e (St w0 F0 L) := ⟨fun a w ha hC => by
  have hrun : (results fn a.tmps).run P w = .ok (.tuple #[v, v2, v3]) w := by simp [results, hr, ha.get _ _ hv, ha.get _ _ hv2, ha.get _ _ hv3]
  have : bodyR w0 F0 post (.returned (.tuple #[v, v2, v3])) w := ⟨_, M, rfl, hp, hst w hC⟩
  rcases hx with rfl | rfl
  · exact ⟨ha.defers, _, hrun, this⟩
  · exact ⟨ha.defers, _, hrun, this⟩⟩
end
end Go.Proofs.YtjnnlfeohbidhaaDoor
