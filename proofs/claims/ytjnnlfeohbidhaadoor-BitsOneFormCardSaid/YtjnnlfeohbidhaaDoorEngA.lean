import Derived.Deep.Quiet
import Derived.OrdersHeld
import Derived.StillTail
import Derived.Tactics
import Derived.KernelRfl
namespace Go.Proofs.YtjnnlfeohbidhaaDoor
open Go

/-! ### A region that draws its order: one walk in the order of the text, with events -/

/-- No exit but the normal one. -/
def QN : Exit → Act → World → Prop := fun _ _ _ => False

/-- An operation whose value hangs on its operands alone. -/
def pureB : Op → Bool
  | .move _ | .assign _ | .pick .. | .nilCheck _ | .fieldAddr .. | .field .. | .indexAddr .. | .index .. | .unOp .. | .extract .. | .slice .. | .makeInterface .. | .makeFunc .. | .binOp .. | .build .. => true
  | .call { callee := .builtin .len, .. } => true
  | _ => false
def callB : Op → Bool
  | .call _ => true
  | _ => false

/-- Does j wait for i, by however many steps? -/
def waitsB (ops : Array Oper) : Nat → Nat → Nat → Bool
  | 0, _, _ => false
  | n + 1, j, i => match ops[j]? with
    | some o => o.after.any fun e => Region.binds .any e && (e.on == i || waitsB ops n e.on i)
    | none => false

def Closed (ops : Array Oper) (listed : Array Bool) : Prop := ∀ j oj, ops[j]? = some oj → listed.getD j false = true → ∀ e ∈ oj.after, Region.binds .any e = true → listed.getD e.on false = true

theorem waits_unlisted {ops : Array Oper} {listed : Array Bool} (hc : Closed ops listed) {i : Nat} (hi : listed.getD i false = false) : ∀ n j, waitsB ops n j i = true → listed.getD j false = false := by
  intro n
  induction n with
  | zero => intro j h; simp [waitsB] at h
  | succ n ih =>
    intro j h
    simp only [waitsB] at h
    split at h
    case h_2 => cases h
    case h_1 o ho =>
      obtain ⟨e, he, hb⟩ := Array.any_eq_true'.1 h
      simp only [Bool.and_eq_true, Bool.or_eq_true, beq_iff_eq] at hb
      cases hj : listed.getD j false with
      | false => rfl
      | true =>
        have h1 := hc j o ho hj e he hb.1
        rcases hb.2 with h2 | h2
        · rw [h2, hi] at h1; cases h1
        · rw [ih _ h2] at h1; cases h1

theorem waits_not_ready {ops : Array Oper} {listed : Array Bool} (hc : Closed ops listed) {i n j : Nat} (hi : listed.getD i false = false) (h : waitsB ops n j i = true) : j ∉ Region.ready .any ops listed := by
  intro hr
  obtain ⟨_, o, ho, hall⟩ := mem_ready.1 hr
  cases n with
  | zero => simp [waitsB] at h
  | succ n =>
    simp only [waitsB, ho] at h
    obtain ⟨e, he, hb⟩ := Array.any_eq_true'.1 h
    simp only [Bool.and_eq_true, Bool.or_eq_true, beq_iff_eq] at hb
    have h1 := hall e he hb.1
    rcases hb.2 with h2 | h2
    · rw [h2, hi] at h1; cases h1
    · rw [waits_unlisted hc hi _ _ h2] at h1; cases h1

theorem Closed.set {ops : Array Oper} {listed : Array Bool} (h : Closed ops listed) {i : Nat} (hr : i ∈ Region.ready .any ops listed) : Closed ops (listed.setIfInBounds i true) := by
  intro j oj hj hl e he hb
  by_cases hji : i = j
  · subst hji
    obtain ⟨_, o, ho, hall⟩ := mem_ready.1 hr
    rw [hj] at ho
    cases ho
    exact getD_set_true (hall e he hb)
  · rw [getD_set_ne false hji] at hl
    exact getD_set_true (h j oj hj hl e he hb)

section
variable {P : Program} {ops : Array Oper} {ev wk : Nat → Bool}

/-- Whatever order is picked from here on: events turn the class. -/
def wpAnyE (P : Program) (ops : Array Oper) (ev wk : Nat → Bool) (K : Act → (World → Prop) → Prop) : Nat → Array Bool → Act → (World → Prop) → Prop
  | 0, listed, a, C => Region.ready .any ops listed = [] ∧ K a C
  | fuel + 1, listed, a, C =>
    (Region.ready .any ops listed = [] → K a C) ∧
    ∀ i ∈ Region.ready .any ops listed,
      if ev i then ∀ w, C w → wpOp P ops QN i (fun a' w' => ∃ C' : World → Prop, C' w' ∧ (wk i = true → ∀ x, C' x → C x) ∧ wpAnyE P ops ev wk K fuel (listed.setIfInBounds i true) a' C') a w
      else qOp P ops C i (fun a' => wpAnyE P ops ev wk K fuel (listed.setIfInBounds i true) a' C) a

theorem Oper.wp_monoQ {o : Oper} {a : Act} {w : World} {K : Act → World → Prop} {Q : Exit → Act → World → Prop} (h : o.wp P a w K QN) : o.wp P a w K Q := by
  unfold Oper.wp at *
  generalize (execOp a.eval o).run P w = r at *
  cases r with
  | ok n w' =>
    cases n <;> simp only [Oper.upon] at h ⊢ <;>
      first
        | exact h
        | exact Calls.mono h (fun e w'' he => by cases e <;> first | exact he | exact he.elim | (obtain ⟨_, _, x⟩ := he; exact x.elim))
  | halt x w' => cases x <;> simp only [Oper.upon] at h ⊢ <;> exact h.elim

theorem wpOp_monoQ {i : Nat} {a : Act} {w : World} {K : Act → World → Prop} {Q : Exit → Act → World → Prop} (h : wpOp P ops QN i K a w) : wpOp P ops Q i K a w := by
  unfold wpOp at *
  split
  · rename_i ho; simpa [ho] using h
  · rename_i o ho
    simp only [ho] at h
    split
    · rename_i hw
      simp only [hw, if_true] at h
      rcases h with h | ⟨_, _, _, h⟩
      · exact .inl (Oper.wp_monoQ h)
      · exact h.elim
    · rename_i hw; simp only [hw] at h; exact h

theorem wpAny_of_E {K : Act → (World → Prop) → Prop} {Q : Exit → Act → World → Prop} (hQ : ∀ a C w, C w → K a C → Q .normal a w) : ∀ (fuel : Nat) (listed : Array Bool) (a : Act) (C : World → Prop) (w : World), C w →
    wpAnyE P ops ev wk K fuel listed a C → wpAny P .any ops Q fuel listed a w
  | 0, _, _, _, _, hw, h => ⟨h.1, hQ _ _ _ hw h.2⟩
  | fuel + 1, _, _, C, w, hw, h => by
    refine ⟨fun h0 => hQ _ _ _ hw (h.1 h0), fun i hi => ?_⟩
    have h1 := h.2 i hi
    split at h1
    · exact wpOp_monoQ (wpOp_mono (fun a' w' ⟨C', hC', _, h'⟩ => wpAny_of_E hQ fuel _ a' C' w' hC' h') (h1 w hw))
    · exact wpOp_of_qOp hw (fun a' w' hw' => wpAny_of_E hQ fuel _ a' C w' hw') h1

theorem Oper.asks_put {oj : Oper} (hsj : ∀ cs b, oj.op ≠ .select cs b) {a : Act} {dst : Option Tmp} {v : Value} {w : World} (h1 : ∀ d, dst = some d → d ∉ oj.looksAt ops) (h : oj.asks P (a.put dst v) w) : oj.asks P a w := by
  unfold Oper.asks at *
  rwa [execOp_put oj hsj a dst v h1] at h

/-- An event 'oj', apart from 'oi'. -/
theorem wpOp_putE {j : Nat} {oi oj : Oper} {v : Value} (hj : ops[j]? = some oj) (hap : oi.apart ops oj = true) (hsj : ∀ cs b, oj.op ≠ .select cs b)
    {Y : Act → Prop} (keep : ∀ a u, Y a → Y (a.put oj.dst u)) (keepD : ∀ (a : Act) d, Y a → Y { a with defers := d :: a.defers })
    {K : Act → World → Prop} {a : Act} {w : World} (hy : Y a) (h : wpOp P ops QN j K (a.put oi.dst v) w) :
    wpOp P ops QN j (fun a' w' => Y a' ∧ K (a'.put oi.dst v) w') a w := by
  obtain ⟨h1, h2, h3⟩ := Oper.apart_spec hap
  unfold wpOp at *
  simp only [hj] at *
  rw [wanted_put oj a oi.dst v h1] at h
  split
  · rename_i hw
    simp only [hw, if_true] at h
    rcases h with h | ⟨_, _, _, h⟩
    case inr => exact h.elim
    refine .inl ?_
    unfold Oper.wp at *
    rw [execOp_put oj hsj a oi.dst v h1] at h
    generalize (execOp a.eval oj).run P w = r at *
    cases r with
    | ok n w' =>
      cases n <;> simp only [Oper.upon] at h ⊢
      case value u => exact ⟨keep a u hy, by rw [← Act.put_comm a v u h2]; exact h⟩
      case skip => exact ⟨keep a _ hy, by rw [← Act.put_comm a v undef h2]; exact h⟩
      case defer d =>
        refine ⟨keep _ _ (keepD _ _ hy), ?_⟩
        rw [← Act.put_comm _ v undef h2, ← Act.put_defers]
        exact h
      case enter f args =>
        refine Calls.mono h fun e w'' he => ?_
        cases e with
        | returned u => exact ⟨keep a u hy, by rw [← Act.put_comm a v u h2]; exact he⟩
        | panicked c => exact he.elim
        | outgrown => obtain ⟨_, _, x⟩ := he; exact x.elim
      case row row args => exact Rows.mono h fun u w'' he => ⟨keep a u hy, by rw [← Act.put_comm a v u h2]; exact he⟩
    | halt x w' =>
      cases x <;> simp only [Oper.upon] at h ⊢
      case panic u => exact h.elim
  · rename_i hw
    simp only [hw] at h
    exact ⟨keep a _ hy, by rw [← Act.put_comm a v undef h2]; exact h⟩

/-- What an operation that is no event shows, by its kind: whatever the world; in every world of the class; (a call) in the class. -/
def YldK (P : Program) (ops : Array Oper) (o : Oper) (v : Value) (a : Act) (C : World → Prop) : Prop :=
  if pureB o.op = true then YieldsIf P ops (fun _ => True) o v a
  else if callB o.op = true then YieldsIn P ops C o v a
  else YieldsIf P ops C o v a

theorem yldIf_toIn {C D : World → Prop} {o : Oper} {v : Value} {a : Act} (hd : ∀ w, C w → D w) (h : YieldsIf P ops D o v a) : YieldsIn P ops C o v a :=
  h.imp (fun ⟨hw, hv⟩ => ⟨hw, fun w hC => by unfold Oper.quietAt; rw [hv w (hd w hC)]; exact ⟨rfl, rfl⟩⟩) id

theorem yldK_toIn {C : World → Prop} {o : Oper} {v : Value} {a : Act} (h : YldK P ops o v a C) : YieldsIn P ops C o v a := by
  unfold YldK at h
  split at h
  · exact yldIf_toIn (fun _ _ => trivial) h
  · split at h
    · exact h
    · exact yldIf_toIn (fun _ h => h) h

theorem yldK_same {C : World → Prop} {o : Oper} {v : Value} {a a' : Act} (h : YldK P ops o v a C) (he : execOp a'.eval o = execOp a.eval o)
    (hw : Region.wanted o (yielded ops a'.tmps) = Region.wanted o (yielded ops a.tmps)) : YldK P ops o v a' C := by
  unfold YldK at *
  split at h
  · rename_i hp; rw [if_pos hp]; exact YieldsIf.of_same h he hw
  · rename_i hp
    rw [if_neg hp]
    split at h
    · rename_i hc; rw [if_pos hc]; exact YieldsIn.of_same h he hw
    · rename_i hc; rw [if_neg hc]; exact YieldsIf.of_same h he hw

theorem yldIf_sub {C D : World → Prop} {o : Oper} {v : Value} {a : Act} (hd : ∀ w, C w → D w) (h : YieldsIf P ops D o v a) : YieldsIf P ops C o v a :=
  h.imp (fun ⟨hw, hv⟩ => ⟨hw, fun w hC => hv w (hd w hC)⟩) id

theorem yldK_pass {C C' : World → Prop} {o : Oper} {v : Value} {a : Act} {b : Bool} (hok : pureB o.op = true ∨ (b = true ∧ callB o.op = false)) (hb : b = true → ∀ x, C' x → C x) (h : YldK P ops o v a C) : YldK P ops o v a C' := by
  unfold YldK at *
  split at h
  · rename_i hp; rw [if_pos hp]; exact h
  · rename_i hp
    rw [if_neg hp]
    rcases hok with h1 | ⟨h1, h2⟩
    · exact absurd h1 hp
    · rw [if_neg (by simp [h2])] at h ⊢
      exact yldIf_sub (hb h1) h

/-- **An operation that is no event may be taken first**, if what has not come up yet waits for it, or is apart from it and cannot turn what it yields. -/
theorem wpAnyE_first {K : Act → (World → Prop) → Prop} {i : Nat} {oi : Oper} {v : Value} {N : Nat} (hi : ops[i]? = some oi) (hev : ev i = false) (hsel : ∀ (j : Nat) (o : Oper) cs b, ops[j]? = some o → o.op ≠ .select cs b) :
    ∀ (fuel : Nat) (listed : Array Bool) (a : Act) (C : World → Prop), Closed ops listed →
      (∀ j oj, ops[j]? = some oj → j ≠ i → listed.getD j true = false → (∀ e ∈ oj.after, Region.binds .any e = true → e.on ≠ i) → oi.apart ops oj = true) →
      (∀ j, j < ops.size → listed.getD j true = false → ev j = true → waitsB ops N j i = true ∨ pureB oi.op = true ∨ (wk j = true ∧ callB oi.op = false)) →
      i ∈ Region.ready .any ops listed → YldK P ops oi v a C →
      wpAnyE P ops ev wk K fuel (listed.setIfInBounds i true) (a.put oi.dst v) C → wpAnyE P ops ev wk K (fuel + 1) listed a C := by
  intro fuel
  induction fuel with
  | zero =>
    intro listed a C _ _ _ hr hy H
    refine ⟨fun h => (by rw [h] at hr; cases hr), fun j hj => ?_⟩
    by_cases hji : j = i
    · subst hji; rw [if_neg (by simp [hev])]; exact (yldK_toIn hy).qOp hi H
    · have := ready_mono hj hji
      rw [H.1] at this
      cases this
  | succ fuel ih =>
    intro listed a C hcl hfree hheld hr hy H
    refine ⟨fun h => (by rw [h] at hr; cases hr), fun j hj => ?_⟩
    by_cases hji : j = i
    · subst hji; rw [if_neg (by simp [hev])]; exact (yldK_toIn hy).qOp hi H
    · have h1 := H.2 j (ready_mono hj hji)
      obtain ⟨hjun, oj, hoj, hall⟩ := mem_ready.1 hj
      have hiun : listed.getD i false = false := by
        have h0 := (mem_ready.1 hr).1
        rcases Nat.lt_or_ge i listed.size with h' | h'
        · simp [h'] at h0 ⊢; exact h0
        · simp [Array.getElem?_eq_none h'] at h0
      have hnot : ∀ e ∈ oj.after, Region.binds .any e = true → e.on ≠ i := fun e he hb heq => by
        have h1 := hall e he hb
        rw [heq, hiun] at h1; cases h1
      have hap := hfree j oj hoj hji hjun hnot
      have hfree' : ∀ k ok, ops[k]? = some ok → k ≠ i → (listed.setIfInBounds j true).getD k true = false →
          (∀ e ∈ ok.after, Region.binds .any e = true → e.on ≠ i) → oi.apart ops ok = true := fun k ok hk hki hun hno => by
        refine hfree k ok hk hki ?_ hno
        by_cases hjk : j = k
        · subst hjk; exact hjun
        · rw [getD_set_ne true hjk] at hun; exact hun
      have hheld' : ∀ k, k < ops.size → (listed.setIfInBounds j true).getD k true = false → ev k = true → waitsB ops N k i = true ∨ pureB oi.op = true ∨ (wk k = true ∧ callB oi.op = false) := fun k hk hun hek => by
        refine hheld k hk ?_ hek
        by_cases hjk : j = k
        · subst hjk; exact hjun
        · rw [getD_set_ne true hjk] at hun; exact hun
      obtain ⟨ap1, ap2, ap3⟩ := Oper.apart_spec hap
      have keep : ∀ (D : World → Prop) (a : Act) u, YldK P ops oi v a D → YldK P ops oi v (a.put oj.dst u) D := fun D a u hy =>
        yldK_same hy (execOp_put oi (fun cs b => hsel i oi cs b hi) a oj.dst u ap3) (wanted_put oi a oj.dst u ap3)
      by_cases hej : ev j = true
      · rw [if_pos hej] at h1 ⊢
        have hjlt : j < ops.size := (Array.getElem?_eq_some_iff.1 hoj).1
        rcases hheld j hjlt hjun hej with hw | hok
        · exact absurd hj (waits_not_ready hcl hiun hw)
        · intro w hw
          have h2 := wpOp_putE (Y := fun a' => YldK P ops oi v a' C) hoj hap (fun cs b => hsel j oj cs b hoj) (keep C) (fun a d hy => yldK_same hy rfl rfl) hy (h1 w hw)
          refine wpOp_mono (fun a' w' ⟨hy', C', hC', hwk, h3⟩ => ⟨C', hC', hwk, ih (listed.setIfInBounds j true) a' C' (hcl.set hj) hfree' hheld' (ready_mono hr (Ne.symm hji)) (yldK_pass (b := wk j) hok hwk hy') ?_⟩) h2
          rw [Array.setIfInBounds_comm _ _ hji]
          exact h3
      · rw [if_neg hej] at h1 ⊢
        have h2 := qOp_put hoj hap (fun cs b => hsel i oi cs b hi) (fun cs b => hsel j oj cs b hoj) (yldK_toIn hy) h1
        have h2' : qOp P ops C j (fun a' => YldK P ops oi v a' C ∧ wpAnyE P ops ev wk K fuel ((listed.setIfInBounds i true).setIfInBounds j true) (a'.put oi.dst v) C) a := by
          unfold qOp at h2 ⊢
          simp only [hoj] at h2 ⊢
          split at h2
          · rename_i hw
            rw [if_pos hw]
            obtain ⟨u, hu, _, hn⟩ := h2
            exact ⟨u, hu, keep C a u hy, hn⟩
          · rename_i hw
            rw [if_neg hw]
            exact ⟨keep C a _ hy, h2.2⟩
        refine qOp_mono (fun a' h3 => ih (listed.setIfInBounds j true) a' C (hcl.set hj) hfree' hheld' (ready_mono hr (Ne.symm hji)) h3.1 ?_) h2'
        rw [Array.setIfInBounds_comm _ _ hji]
        exact h3.2
end

/-! ### The order of the text -/
section
variable {P : Program} {ev wk : Nat → Bool}

/-- The walk in the order of the text. -/
def TX (P : Program) (ops : Array Oper) (ev wk : Nat → Bool) (K : Act → (World → Prop) → Prop) : List Oper → Nat → Act → (World → Prop) → Prop
  | [], _, a, C => K a C
  | o :: r, k, a, C =>
    if Region.wanted o (yielded ops a.tmps) = true then
      if ev k = true then ∀ w, C w → o.wp P a w (fun a' w' => ∃ C' : World → Prop, C' w' ∧ (wk k = true → ∀ x, C' x → C x) ∧ TX P ops ev wk K r (k + 1) a' C') QN
      else ∃ v, YldK P ops o v a C ∧ TX P ops ev wk K r (k + 1) (a.put o.dst v) C
    else TX P ops ev wk K r (k + 1) (a.put o.dst undef) C

def okB (ops : Array Oper) (ev wk : Nat → Bool) (listed : Array Bool) (i : Nat) : Bool :=
  match ops[i]? with
  | none => false
  | some o =>
    if ev i then Region.ready .any ops listed == [i]
    else (Region.ready .any ops listed).contains i && Region.free .any ops listed i && ((List.range ops.size).all fun j => listed.getD j true || !ev j || waitsB ops ops.size j i || pureB o.op || (wk j && !callB o.op))

def chkFrom (ops : Array Oper) (ev wk : Nat → Bool) : Nat → Nat → Array Bool → Bool
  | 0, _, listed => (Region.ready .any ops listed).isEmpty
  | n + 1, k, listed => okB ops ev wk listed k && chkFrom ops ev wk n (k + 1) (listed.setIfInBounds k true)

def chkB (ops : Array Oper) (ev wk : Nat → Bool) : Bool := Region.noSelect ops && chkFrom ops ev wk ops.size 0 (Array.replicate ops.size false)

theorem closed_none (ops : Array Oper) (n : Nat) : Closed ops (Array.replicate n false) := by
  intro j oj _ hl
  rcases Nat.lt_or_ge j n with h | h
  · simp [h] at hl
  · simp [Nat.not_lt.2 h] at hl

theorem wpAnyE_tx {ops : Array Oper} {K : Act → (World → Prop) → Prop} (hs : Region.noSelect ops = true) : ∀ (l : List Oper) (k : Nat) (listed : Array Bool) (a : Act) (C : World → Prop), Closed ops listed → (∀ j, l[j]? = ops[k + j]?) →
    chkFrom ops ev wk l.length k listed = true → TX P ops ev wk K l k a C → wpAnyE P ops ev wk K l.length listed a C
  | [], _, _, _, _, _, _, hB, h => ⟨by simpa [chkFrom] using hB, h⟩
  | o :: l, k, listed, a, C, hcl, hl, hB, h => by
    have h0 : ops[k]? = some o := by simpa using (hl 0).symm
    have hl' : ∀ j, l[j]? = ops[(k + 1) + j]? := fun j => by have := hl (j + 1); simpa [Nat.add_assoc, Nat.add_comm 1 j] using this
    simp only [List.length_cons, chkFrom, Bool.and_eq_true] at hB
    obtain ⟨hok, hB'⟩ := hB
    simp only [okB, h0] at hok
    simp only [TX] at h
    by_cases hek : ev k = true
    · rw [if_pos hek] at hok
      have hrd : Region.ready .any ops listed = [k] := by simpa using hok
      have hkr : k ∈ Region.ready .any ops listed := by rw [hrd]; simp
      refine ⟨fun h0 => (by rw [hrd] at h0; cases h0), fun i hi => ?_⟩
      rw [hrd] at hi
      obtain rfl : i = k := by simpa using hi
      rw [if_pos hek]
      intro w hw
      unfold wpOp
      simp only [h0]
      split
      · rename_i hwant
        rw [if_pos hwant, if_pos hek] at h
        refine .inl (Oper.wp_mono ?_ (h w hw))
        rintro a' w' ⟨C', hC', hwk, ht⟩
        exact ⟨C', hC', hwk, wpAnyE_tx hs l _ _ a' C' (hcl.set hkr) hl' hB' ht⟩
      · rename_i hwant
        rw [if_neg hwant] at h
        exact ⟨C, hw, fun _ _ h => h, wpAnyE_tx hs l _ _ _ C (hcl.set hkr) hl' hB' h⟩
    · rw [if_neg hek] at hok
      simp only [Bool.and_eq_true, List.all_eq_true, List.mem_range, Bool.or_eq_true, Bool.not_eq_true'] at hok
      obtain ⟨⟨hr, hf⟩, hh⟩ := hok
      have hkr : k ∈ Region.ready .any ops listed := by simpa using hr
      have hhold : ∀ j, j < ops.size → listed.getD j true = false → ev j = true → waitsB ops ops.size j k = true ∨ pureB o.op = true ∨ (wk j = true ∧ callB o.op = false) := by
        intro j hj hun hej
        rcases hh j hj with (((h1 | h1) | h1) | h1) | h1
        · rw [hun] at h1; cases h1
        · rw [hej] at h1; cases h1
        · exact .inl h1
        · exact .inr (.inl h1)
        · exact .inr (.inr h1)
      by_cases hwant : Region.wanted o (yielded ops a.tmps) = true
      · rw [if_pos hwant, if_neg hek] at h
        obtain ⟨v, hy, ht⟩ := h
        exact wpAnyE_first h0 (by simpa using hek) (Region.noSelect_spec hs) l.length listed a C hcl (Region.free_spec h0 hf) hhold hkr hy
          (wpAnyE_tx hs l _ _ _ C (hcl.set hkr) hl' hB' ht)
      · rw [if_neg hwant] at h
        refine wpAnyE_first (v := undef) h0 (by simpa using hek) (Region.noSelect_spec hs) l.length listed a C hcl (Region.free_spec h0 hf) hhold hkr ?_
          (wpAnyE_tx hs l _ _ _ C (hcl.set hkr) hl' hB' h)
        have hw0 : Region.wanted o (yielded ops a.tmps) = false := by simpa using hwant
        unfold YldK
        split
        · exact .inr ⟨hw0, rfl⟩
        · split
          · exact .inr ⟨hw0, rfl⟩
          · exact .inr ⟨hw0, rfl⟩

/-- A region that draws its order, walked in the order of the text. -/
theorem wp_region_tx {id : Nat} {Q : Exit → Act → World → Prop} {a : Act} {w : World} {l : List Oper} {C : World → Prop} (hm : P.follows .mixedOrders = true) (hB : chkB l.toArray ev wk = true) (hC : C { w with drawn := w.drawn + 1 })
    (h : TX P l.toArray ev wk (fun a' C' => ∀ w', C' w' → Q .normal a' w') l 0 a C) : (Code.region id l.toArray true).wp P Q a w := by
  simp only [chkB, Bool.and_eq_true] at hB
  refine wp_region_any hm (wpAny_of_E (ev := ev) (wk := wk) (K := fun a' C' => ∀ w', C' w' → Q .normal a' w') (fun _ _ w hw h => h w hw) _ _ _ C _ hC ?_)
  have := wpAnyE_tx (P := P) (ops := l.toArray) (ev := ev) (wk := wk) hB.1 l 0 (Array.replicate l.toArray.size false) a C (closed_none _ _) (by simp) (by simpa using hB.2) h
  simpa using this

theorem wpList_of_tx {ops : Array Oper} {K : Act → (World → Prop) → Prop} {Q : Exit → Act → World → Prop} (hQ : ∀ a C w, C w → K a C → Q .normal a w) : ∀ (l : List Oper) (k : Nat) (a : Act) (C : World → Prop) (w : World), C w →
    TX P ops ev wk K l k a C → wpList P ops Q l a w
  | [], _, _, _, _, hw, h => hQ _ _ _ hw h
  | o :: l, k, a, C, w, hw, h => by
    simp only [TX] at h
    unfold wpList
    split
    · rename_i hwant
      rw [if_pos hwant] at h
      refine .inl ?_
      split at h
      · exact Oper.wp_monoQ (Oper.wp_mono (fun a' w' ⟨C', hC', _, ht⟩ => wpList_of_tx hQ l _ a' C' w' hC' ht) (h w hw))
      · obtain ⟨v, hy, ht⟩ := h
        have hin := yldK_toIn hy
        rcases hin with ⟨_, hq⟩ | ⟨hn, _⟩
        · exact Oper.wp_of_quiet (C := C) (K := fun a' => a' = a.put o.dst v) hw (fun a' w' hw' e => by subst e; exact wpList_of_tx hQ l _ _ C w' hw' ht) ⟨v, hq, rfl⟩
        · rw [hn] at hwant; cases hwant
    · rename_i hwant
      rw [if_neg hwant] at h
      exact wpList_of_tx hQ l _ _ C w hw h

/-- A region in the order of the text. -/
theorem wp_region_tx0 {id : Nat} {Q : Exit → Act → World → Prop} {a : Act} {w : World} {l : List Oper} {C : World → Prop} (hC : C w)
    (h : TX P l.toArray ev wk (fun a' C' => ∀ w', C' w' → Q .normal a' w') l 0 a C) : (Code.region id l.toArray false).wp P Q a w :=
  wp_region_lit (wpList_of_tx (K := fun a' C' => ∀ w', C' w' → Q .normal a' w') (fun _ _ w hw h => h w hw) l 0 a C w hC h)
end
end Go.Proofs.YtjnnlfeohbidhaaDoor
