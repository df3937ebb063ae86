import Derived.Deep.Quiet
import Derived.OrdersHeld
import Derived.StillTail
import Derived.Tactics
import Derived.KernelRfl
import Derived.Laws.World
import Derived.WalkKit
import Derived.IntWalk
import Derived.Laws.CopyRow
import Derived.Deep.LoopGhost
import Derived.Laws.AppendOwn
namespace Go.Proofs.YtfolhmlldoepfaaGreatDoor
open Go
/-- No exit but the normal one. -/
def QN : Exit → Act → World → Prop := fun _ _ _ => False
/-- An operation whose value hangs on its operands alone. -/
def pureB : Op → Bool
  | .move _ | .assign _ | .pick .. | .nilCheck _ | .fieldAddr .. | .field .. | .indexAddr .. | .index .. | .unOp .. | .extract .. | .slice .. | .makeInterface .. | .makeFunc .. | .binOp .. | .build .. => true
  | .call { callee := .builtin .len, .. } => true
  | _ => false
def callB : Op → Bool
  | .call _ => true
  | _ => false
/-- Does j wait for i, by however many steps? -/
def waitsB (ops : Array Oper) : Nat → Nat → Nat → Bool
  | 0, _, _ => false
  | n + 1, j, i => match ops[j]? with
    | some o => o.after.any fun e => Region.binds .any e && (e.on == i || waitsB ops n e.on i)
    | none => false
def Closed (ops : Array Oper) (listed : Array Bool) : Prop := ∀ j oj, ops[j]? = some oj → listed.getD j false = true → ∀ e ∈ oj.after, Region.binds .any e = true → listed.getD e.on false = true
theorem waits_unlisted {ops : Array Oper} {listed : Array Bool} (hc : Closed ops listed) {i : Nat} (hi : listed.getD i false = false) : ∀ n j, waitsB ops n j i = true → listed.getD j false = false := by
  intro n
  induction n with
  | zero => intro j h; simp [waitsB] at h
  | succ n ih =>
    intro j h
    simp only [waitsB] at h
    split at h
    case h_2 => cases h
    case h_1 o ho =>
      obtain ⟨e, he, hb⟩ := Array.any_eq_true'.1 h
      simp only [Bool.and_eq_true, Bool.or_eq_true, beq_iff_eq] at hb
      cases hj : listed.getD j false with
      | false => rfl
      | true =>
        have h1 := hc j o ho hj e he hb.1
        rcases hb.2 with h2 | h2
        · rw [h2, hi] at h1; cases h1
        · rw [ih _ h2] at h1; cases h1
theorem waits_not_ready {ops : Array Oper} {listed : Array Bool} (hc : Closed ops listed) {i n j : Nat} (hi : listed.getD i false = false) (h : waitsB ops n j i = true) : j ∉ Region.ready .any ops listed := by
  intro hr
  obtain ⟨_, o, ho, hall⟩ := mem_ready.1 hr
  cases n with
  | zero => simp [waitsB] at h
  | succ n =>
    simp only [waitsB, ho] at h
    obtain ⟨e, he, hb⟩ := Array.any_eq_true'.1 h
    simp only [Bool.and_eq_true, Bool.or_eq_true, beq_iff_eq] at hb
    have h1 := hall e he hb.1
    rcases hb.2 with h2 | h2
    · rw [h2, hi] at h1; cases h1
    · rw [waits_unlisted hc hi _ _ h2] at h1; cases h1
theorem Closed.set {ops : Array Oper} {listed : Array Bool} (h : Closed ops listed) {i : Nat} (hr : i ∈ Region.ready .any ops listed) : Closed ops (listed.setIfInBounds i true) := by
  intro j oj hj hl e he hb
  by_cases hji : i = j
  · subst hji
    obtain ⟨_, o, ho, hall⟩ := mem_ready.1 hr
    rw [hj] at ho
    cases ho
    exact getD_set_true (hall e he hb)
  · rw [getD_set_ne false hji] at hl
    exact getD_set_true (h j oj hj hl e he hb)
section
variable {P : Program} {ops : Array Oper} {ev wk : Nat → Bool}
/-- Whatever order is picked from here on: events turn the class. -/
def wpAnyE (P : Program) (ops : Array Oper) (ev wk : Nat → Bool) (K : Act → (World → Prop) → Prop) : Nat → Array Bool → Act → (World → Prop) → Prop
  | 0, listed, a, C => Region.ready .any ops listed = [] ∧ K a C
  | fuel + 1, listed, a, C =>
    (Region.ready .any ops listed = [] → K a C) ∧
    ∀ i ∈ Region.ready .any ops listed,
      if ev i then ∀ w, C w → wpOp P ops QN i (fun a' w' => ∃ C' : World → Prop, C' w' ∧ (wk i = true → ∀ x, C' x → C x) ∧ wpAnyE P ops ev wk K fuel (listed.setIfInBounds i true) a' C') a w
      else qOp P ops C i (fun a' => wpAnyE P ops ev wk K fuel (listed.setIfInBounds i true) a' C) a
theorem Oper.wp_monoQ {o : Oper} {a : Act} {w : World} {K : Act → World → Prop} {Q : Exit → Act → World → Prop} (h : o.wp P a w K QN) : o.wp P a w K Q := by
  unfold Oper.wp at *
  generalize (execOp a.eval o).run P w = r at *
  cases r with
  | ok n w' =>
    cases n <;> simp only [Oper.upon] at h ⊢ <;>
      first
        | exact h
        | exact Calls.mono h (fun e w'' he => by cases e <;> first | exact he | exact he.elim | (obtain ⟨_, _, x⟩ := he; exact x.elim))
  | halt x w' => cases x <;> simp only [Oper.upon] at h ⊢ <;> exact h.elim
theorem wpOp_monoQ {i : Nat} {a : Act} {w : World} {K : Act → World → Prop} {Q : Exit → Act → World → Prop} (h : wpOp P ops QN i K a w) : wpOp P ops Q i K a w := by
  unfold wpOp at *
  split
  · rename_i ho; simpa [ho] using h
  · rename_i o ho
    simp only [ho] at h
    split
    · rename_i hw
      simp only [hw, if_true] at h
      rcases h with h | ⟨_, _, _, h⟩
      · exact .inl (Oper.wp_monoQ h)
      · exact h.elim
    · rename_i hw; simp only [hw] at h; exact h
theorem wpAny_of_E {K : Act → (World → Prop) → Prop} {Q : Exit → Act → World → Prop} (hQ : ∀ a C w, C w → K a C → Q .normal a w) : ∀ (fuel : Nat) (listed : Array Bool) (a : Act) (C : World → Prop) (w : World), C w →
    wpAnyE P ops ev wk K fuel listed a C → wpAny P .any ops Q fuel listed a w
  | 0, _, _, _, _, hw, h => ⟨h.1, hQ _ _ _ hw h.2⟩
  | fuel + 1, _, _, C, w, hw, h => by
    refine ⟨fun h0 => hQ _ _ _ hw (h.1 h0), fun i hi => ?_⟩
    have h1 := h.2 i hi
    split at h1
    · exact wpOp_monoQ (wpOp_mono (fun a' w' ⟨C', hC', _, h'⟩ => wpAny_of_E hQ fuel _ a' C' w' hC' h') (h1 w hw))
    · exact wpOp_of_qOp hw (fun a' w' hw' => wpAny_of_E hQ fuel _ a' C w' hw') h1
/-- An event 'oj', apart from 'oi'. -/
theorem wpOp_putE {j : Nat} {oi oj : Oper} {v : Value} (hj : ops[j]? = some oj) (hap : oi.apart ops oj = true) (hsj : ∀ cs b, oj.op ≠ .select cs b)
    {Y : Act → Prop} (keep : ∀ a u, Y a → Y (a.put oj.dst u)) (keepD : ∀ (a : Act) d, Y a → Y { a with defers := d :: a.defers })
    {K : Act → World → Prop} {a : Act} {w : World} (hy : Y a) (h : wpOp P ops QN j K (a.put oi.dst v) w) :
    wpOp P ops QN j (fun a' w' => Y a' ∧ K (a'.put oi.dst v) w') a w := by
  obtain ⟨h1, h2, h3⟩ := Oper.apart_spec hap
  unfold wpOp at *
  simp only [hj] at *
  rw [wanted_put oj a oi.dst v h1] at h
  split
  · rename_i hw
    simp only [hw, if_true] at h
    rcases h with h | ⟨_, _, _, h⟩
    case inr => exact h.elim
    refine .inl ?_
    unfold Oper.wp at *
    rw [execOp_put oj hsj a oi.dst v h1] at h
    generalize (execOp a.eval oj).run P w = r at *
    cases r with
    | ok n w' =>
      cases n <;> simp only [Oper.upon] at h ⊢
      case value u => exact ⟨keep a u hy, by rw [← Act.put_comm a v u h2]; exact h⟩
      case skip => exact ⟨keep a _ hy, by rw [← Act.put_comm a v undef h2]; exact h⟩
      case defer d =>
        refine ⟨keep _ _ (keepD _ _ hy), ?_⟩
        rw [← Act.put_comm _ v undef h2, ← Act.put_defers]
        exact h
      case enter f args =>
        refine Calls.mono h fun e w'' he => ?_
        cases e with
        | returned u => exact ⟨keep a u hy, by rw [← Act.put_comm a v u h2]; exact he⟩
        | panicked c => exact he.elim
        | outgrown => obtain ⟨_, _, x⟩ := he; exact x.elim
      case row row args => exact Rows.mono h fun u w'' he => ⟨keep a u hy, by rw [← Act.put_comm a v u h2]; exact he⟩
    | halt x w' =>
      cases x <;> simp only [Oper.upon] at h ⊢
      case panic u => exact h.elim
  · rename_i hw
    simp only [hw] at h
    exact ⟨keep a _ hy, by rw [← Act.put_comm a v undef h2]; exact h⟩
/-- What an operation that is no event shows, by its kind: whatever the world; in every world of the class; (a call) in the class. -/
def YldK (P : Program) (ops : Array Oper) (o : Oper) (v : Value) (a : Act) (C : World → Prop) : Prop :=
  if pureB o.op = true then YieldsIf P ops (fun _ => True) o v a
  else if callB o.op = true then YieldsIn P ops C o v a
  else YieldsIf P ops C o v a
theorem yldIf_toIn {C D : World → Prop} {o : Oper} {v : Value} {a : Act} (hd : ∀ w, C w → D w) (h : YieldsIf P ops D o v a) : YieldsIn P ops C o v a :=
  h.imp (fun ⟨hw, hv⟩ => ⟨hw, fun w hC => by unfold Oper.quietAt; rw [hv w (hd w hC)]; exact ⟨rfl, rfl⟩⟩) id
theorem yldK_toIn {C : World → Prop} {o : Oper} {v : Value} {a : Act} (h : YldK P ops o v a C) : YieldsIn P ops C o v a := by
  unfold YldK at h
  split at h
  · exact yldIf_toIn (fun _ _ => trivial) h
  · split at h
    · exact h
    · exact yldIf_toIn (fun _ h => h) h
theorem yldK_same {C : World → Prop} {o : Oper} {v : Value} {a a' : Act} (h : YldK P ops o v a C) (he : execOp a'.eval o = execOp a.eval o)
    (hw : Region.wanted o (yielded ops a'.tmps) = Region.wanted o (yielded ops a.tmps)) : YldK P ops o v a' C := by
  unfold YldK at *
  split at h
  · rename_i hp; rw [if_pos hp]; exact YieldsIf.of_same h he hw
  · rename_i hp
    rw [if_neg hp]
    split at h
    · rename_i hc; rw [if_pos hc]; exact YieldsIn.of_same h he hw
    · rename_i hc; rw [if_neg hc]; exact YieldsIf.of_same h he hw
theorem yldIf_sub {C D : World → Prop} {o : Oper} {v : Value} {a : Act} (hd : ∀ w, C w → D w) (h : YieldsIf P ops D o v a) : YieldsIf P ops C o v a :=
  h.imp (fun ⟨hw, hv⟩ => ⟨hw, fun w hC => hv w (hd w hC)⟩) id
theorem yldK_pass {C C' : World → Prop} {o : Oper} {v : Value} {a : Act} {b : Bool} (hok : pureB o.op = true ∨ (b = true ∧ callB o.op = false)) (hb : b = true → ∀ x, C' x → C x) (h : YldK P ops o v a C) : YldK P ops o v a C' := by
  unfold YldK at *
  split at h
  · rename_i hp; rw [if_pos hp]; exact h
  · rename_i hp
    rw [if_neg hp]
    rcases hok with h1 | ⟨h1, h2⟩
    · exact absurd h1 hp
    · rw [if_neg (by simp [h2])] at h ⊢
      exact yldIf_sub (hb h1) h
/-- **An operation that is no event may be taken first**, if what has not come up yet waits for it, or is apart from it and cannot turn what it yields. -/
theorem wpAnyE_first {K : Act → (World → Prop) → Prop} {i : Nat} {oi : Oper} {v : Value} {N : Nat} (hi : ops[i]? = some oi) (hev : ev i = false) (hsel : ∀ (j : Nat) (o : Oper) cs b, ops[j]? = some o → o.op ≠ .select cs b) :
    ∀ (fuel : Nat) (listed : Array Bool) (a : Act) (C : World → Prop), Closed ops listed →
      (∀ j oj, ops[j]? = some oj → j ≠ i → listed.getD j true = false → (∀ e ∈ oj.after, Region.binds .any e = true → e.on ≠ i) → oi.apart ops oj = true) →
      (∀ j, j < ops.size → listed.getD j true = false → ev j = true → waitsB ops N j i = true ∨ pureB oi.op = true ∨ (wk j = true ∧ callB oi.op = false)) →
      i ∈ Region.ready .any ops listed → YldK P ops oi v a C →
      wpAnyE P ops ev wk K fuel (listed.setIfInBounds i true) (a.put oi.dst v) C → wpAnyE P ops ev wk K (fuel + 1) listed a C := by
  intro fuel
  induction fuel with
  | zero =>
    intro listed a C _ _ _ hr hy H
    refine ⟨fun h => (by rw [h] at hr; cases hr), fun j hj => ?_⟩
    by_cases hji : j = i
    · subst hji; rw [if_neg (by simp [hev])]; exact (yldK_toIn hy).qOp hi H
    · have := ready_mono hj hji
      rw [H.1] at this
      cases this
  | succ fuel ih =>
    intro listed a C hcl hfree hheld hr hy H
    refine ⟨fun h => (by rw [h] at hr; cases hr), fun j hj => ?_⟩
    by_cases hji : j = i
    · subst hji; rw [if_neg (by simp [hev])]; exact (yldK_toIn hy).qOp hi H
    · have h1 := H.2 j (ready_mono hj hji)
      obtain ⟨hjun, oj, hoj, hall⟩ := mem_ready.1 hj
      have hiun : listed.getD i false = false := by
        have h0 := (mem_ready.1 hr).1
        rcases Nat.lt_or_ge i listed.size with h' | h'
        · simp [h'] at h0 ⊢; exact h0
        · simp [Array.getElem?_eq_none h'] at h0
      have hnot : ∀ e ∈ oj.after, Region.binds .any e = true → e.on ≠ i := fun e he hb heq => by
        have h1 := hall e he hb
        rw [heq, hiun] at h1; cases h1
      have hap := hfree j oj hoj hji hjun hnot
      have hfree' : ∀ k ok, ops[k]? = some ok → k ≠ i → (listed.setIfInBounds j true).getD k true = false →
          (∀ e ∈ ok.after, Region.binds .any e = true → e.on ≠ i) → oi.apart ops ok = true := fun k ok hk hki hun hno => by
        refine hfree k ok hk hki ?_ hno
        by_cases hjk : j = k
        · subst hjk; exact hjun
        · rw [getD_set_ne true hjk] at hun; exact hun
      have hheld' : ∀ k, k < ops.size → (listed.setIfInBounds j true).getD k true = false → ev k = true → waitsB ops N k i = true ∨ pureB oi.op = true ∨ (wk k = true ∧ callB oi.op = false) := fun k hk hun hek => by
        refine hheld k hk ?_ hek
        by_cases hjk : j = k
        · subst hjk; exact hjun
        · rw [getD_set_ne true hjk] at hun; exact hun
      obtain ⟨ap1, ap2, ap3⟩ := Oper.apart_spec hap
      have keep : ∀ (D : World → Prop) (a : Act) u, YldK P ops oi v a D → YldK P ops oi v (a.put oj.dst u) D := fun D a u hy =>
        yldK_same hy (execOp_put oi (fun cs b => hsel i oi cs b hi) a oj.dst u ap3) (wanted_put oi a oj.dst u ap3)
      by_cases hej : ev j = true
      · rw [if_pos hej] at h1 ⊢
        have hjlt : j < ops.size := (Array.getElem?_eq_some_iff.1 hoj).1
        rcases hheld j hjlt hjun hej with hw | hok
        · exact absurd hj (waits_not_ready hcl hiun hw)
        · intro w hw
          have h2 := wpOp_putE (Y := fun a' => YldK P ops oi v a' C) hoj hap (fun cs b => hsel j oj cs b hoj) (keep C) (fun a d hy => yldK_same hy rfl rfl) hy (h1 w hw)
          refine wpOp_mono (fun a' w' ⟨hy', C', hC', hwk, h3⟩ => ⟨C', hC', hwk, ih (listed.setIfInBounds j true) a' C' (hcl.set hj) hfree' hheld' (ready_mono hr (Ne.symm hji)) (yldK_pass (b := wk j) hok hwk hy') ?_⟩) h2
          rw [Array.setIfInBounds_comm _ _ hji]
          exact h3
      · rw [if_neg hej] at h1 ⊢
        have h2 := qOp_put hoj hap (fun cs b => hsel i oi cs b hi) (fun cs b => hsel j oj cs b hoj) (yldK_toIn hy) h1
        have h2' : qOp P ops C j (fun a' => YldK P ops oi v a' C ∧ wpAnyE P ops ev wk K fuel ((listed.setIfInBounds i true).setIfInBounds j true) (a'.put oi.dst v) C) a := by
          unfold qOp at h2 ⊢
          simp only [hoj] at h2 ⊢
          split at h2
          · rename_i hw
            rw [if_pos hw]
            obtain ⟨u, hu, _, hn⟩ := h2
            exact ⟨u, hu, keep C a u hy, hn⟩
          · rename_i hw
            rw [if_neg hw]
            exact ⟨keep C a _ hy, h2.2⟩
        refine qOp_mono (fun a' h3 => ih (listed.setIfInBounds j true) a' C (hcl.set hj) hfree' hheld' (ready_mono hr (Ne.symm hji)) h3.1 ?_) h2'
        rw [Array.setIfInBounds_comm _ _ hji]
        exact h3.2
end
section
variable {P : Program} {ev wk : Nat → Bool}
/-- The walk in the order of the text. -/
def TX (P : Program) (ops : Array Oper) (ev wk : Nat → Bool) (K : Act → (World → Prop) → Prop) : List Oper → Nat → Act → (World → Prop) → Prop
  | [], _, a, C => K a C
  | o :: r, k, a, C =>
    if Region.wanted o (yielded ops a.tmps) = true then
      if ev k = true then ∀ w, C w → o.wp P a w (fun a' w' => ∃ C' : World → Prop, C' w' ∧ (wk k = true → ∀ x, C' x → C x) ∧ TX P ops ev wk K r (k + 1) a' C') QN
      else ∃ v, YldK P ops o v a C ∧ TX P ops ev wk K r (k + 1) (a.put o.dst v) C
    else TX P ops ev wk K r (k + 1) (a.put o.dst undef) C
def okB (ops : Array Oper) (ev wk : Nat → Bool) (listed : Array Bool) (i : Nat) : Bool :=
  match ops[i]? with
  | none => false
  | some o =>
    if ev i then Region.ready .any ops listed == [i]
    else (Region.ready .any ops listed).contains i && Region.free .any ops listed i && ((List.range ops.size).all fun j => listed.getD j true || !ev j || waitsB ops ops.size j i || pureB o.op || (wk j && !callB o.op))
def chkFrom (ops : Array Oper) (ev wk : Nat → Bool) : Nat → Nat → Array Bool → Bool
  | 0, _, listed => (Region.ready .any ops listed).isEmpty
  | n + 1, k, listed => okB ops ev wk listed k && chkFrom ops ev wk n (k + 1) (listed.setIfInBounds k true)
def chkB (ops : Array Oper) (ev wk : Nat → Bool) : Bool := Region.noSelect ops && chkFrom ops ev wk ops.size 0 (Array.replicate ops.size false)
theorem closed_none (ops : Array Oper) (n : Nat) : Closed ops (Array.replicate n false) := by
  intro j oj _ hl
  rcases Nat.lt_or_ge j n with h | h
  · simp [h] at hl
  · simp [Nat.not_lt.2 h] at hl
theorem wpAnyE_tx {ops : Array Oper} {K : Act → (World → Prop) → Prop} (hs : Region.noSelect ops = true) : ∀ (l : List Oper) (k : Nat) (listed : Array Bool) (a : Act) (C : World → Prop), Closed ops listed → (∀ j, l[j]? = ops[k + j]?) →
    chkFrom ops ev wk l.length k listed = true → TX P ops ev wk K l k a C → wpAnyE P ops ev wk K l.length listed a C
  | [], _, _, _, _, _, _, hB, h => ⟨by simpa [chkFrom] using hB, h⟩
  | o :: l, k, listed, a, C, hcl, hl, hB, h => by
    have h0 : ops[k]? = some o := by simpa using (hl 0).symm
    have hl' : ∀ j, l[j]? = ops[(k + 1) + j]? := fun j => by have := hl (j + 1); simpa [Nat.add_assoc, Nat.add_comm 1 j] using this
    simp only [List.length_cons, chkFrom, Bool.and_eq_true] at hB
    obtain ⟨hok, hB'⟩ := hB
    simp only [okB, h0] at hok
    simp only [TX] at h
    by_cases hek : ev k = true
    · rw [if_pos hek] at hok
      have hrd : Region.ready .any ops listed = [k] := by simpa using hok
      have hkr : k ∈ Region.ready .any ops listed := by rw [hrd]; simp
      refine ⟨fun h0 => (by rw [hrd] at h0; cases h0), fun i hi => ?_⟩
      rw [hrd] at hi
      obtain rfl : i = k := by simpa using hi
      rw [if_pos hek]
      intro w hw
      unfold wpOp
      simp only [h0]
      split
      · rename_i hwant
        rw [if_pos hwant, if_pos hek] at h
        refine .inl (Oper.wp_mono ?_ (h w hw))
        rintro a' w' ⟨C', hC', hwk, ht⟩
        exact ⟨C', hC', hwk, wpAnyE_tx hs l _ _ a' C' (hcl.set hkr) hl' hB' ht⟩
      · rename_i hwant
        rw [if_neg hwant] at h
        exact ⟨C, hw, fun _ _ h => h, wpAnyE_tx hs l _ _ _ C (hcl.set hkr) hl' hB' h⟩
    · rw [if_neg hek] at hok
      simp only [Bool.and_eq_true, List.all_eq_true, List.mem_range, Bool.or_eq_true, Bool.not_eq_true'] at hok
      obtain ⟨⟨hr, hf⟩, hh⟩ := hok
      have hkr : k ∈ Region.ready .any ops listed := by simpa using hr
      have hhold : ∀ j, j < ops.size → listed.getD j true = false → ev j = true → waitsB ops ops.size j k = true ∨ pureB o.op = true ∨ (wk j = true ∧ callB o.op = false) := by
        intro j hj hun hej
        rcases hh j hj with (((h1 | h1) | h1) | h1) | h1
        · rw [hun] at h1; cases h1
        · rw [hej] at h1; cases h1
        · exact .inl h1
        · exact .inr (.inl h1)
        · exact .inr (.inr h1)
      by_cases hwant : Region.wanted o (yielded ops a.tmps) = true
      · rw [if_pos hwant, if_neg hek] at h
        obtain ⟨v, hy, ht⟩ := h
        exact wpAnyE_first h0 (by simpa using hek) (Region.noSelect_spec hs) l.length listed a C hcl (Region.free_spec h0 hf) hhold hkr hy
          (wpAnyE_tx hs l _ _ _ C (hcl.set hkr) hl' hB' ht)
      · rw [if_neg hwant] at h
        refine wpAnyE_first (v := undef) h0 (by simpa using hek) (Region.noSelect_spec hs) l.length listed a C hcl (Region.free_spec h0 hf) hhold hkr ?_
          (wpAnyE_tx hs l _ _ _ C (hcl.set hkr) hl' hB' h)
        have hw0 : Region.wanted o (yielded ops a.tmps) = false := by simpa using hwant
        unfold YldK
        split
        · exact .inr ⟨hw0, rfl⟩
        · split
          · exact .inr ⟨hw0, rfl⟩
          · exact .inr ⟨hw0, rfl⟩
/-- A region that draws its order, walked in the order of the text. -/
theorem wp_region_tx {id : Nat} {Q : Exit → Act → World → Prop} {a : Act} {w : World} {l : List Oper} {C : World → Prop} (hm : P.follows .mixedOrders = true) (hB : chkB l.toArray ev wk = true) (hC : C { w with drawn := w.drawn + 1 })
    (h : TX P l.toArray ev wk (fun a' C' => ∀ w', C' w' → Q .normal a' w') l 0 a C) : (Code.region id l.toArray true).wp P Q a w := by
  simp only [chkB, Bool.and_eq_true] at hB
  refine wp_region_any hm (wpAny_of_E (ev := ev) (wk := wk) (K := fun a' C' => ∀ w', C' w' → Q .normal a' w') (fun _ _ w hw h => h w hw) _ _ _ C _ hC ?_)
  have := wpAnyE_tx (P := P) (ops := l.toArray) (ev := ev) (wk := wk) hB.1 l 0 (Array.replicate l.toArray.size false) a C (closed_none _ _) (by simp) (by simpa using hB.2) h
  simpa using this
theorem wpList_of_tx {ops : Array Oper} {K : Act → (World → Prop) → Prop} {Q : Exit → Act → World → Prop} (hQ : ∀ a C w, C w → K a C → Q .normal a w) : ∀ (l : List Oper) (k : Nat) (a : Act) (C : World → Prop) (w : World), C w →
    TX P ops ev wk K l k a C → wpList P ops Q l a w
  | [], _, _, _, _, hw, h => hQ _ _ _ hw h
  | o :: l, k, a, C, w, hw, h => by
    simp only [TX] at h
    unfold wpList
    split
    · rename_i hwant
      rw [if_pos hwant] at h
      refine .inl ?_
      split at h
      · exact Oper.wp_monoQ (Oper.wp_mono (fun a' w' ⟨C', hC', _, ht⟩ => wpList_of_tx hQ l _ a' C' w' hC' ht) (h w hw))
      · obtain ⟨v, hy, ht⟩ := h
        have hin := yldK_toIn hy
        rcases hin with ⟨_, hq⟩ | ⟨hn, _⟩
        · exact Oper.wp_of_quiet (C := C) (K := fun a' => a' = a.put o.dst v) hw (fun a' w' hw' e => by subst e; exact wpList_of_tx hQ l _ _ C w' hw' ht) ⟨v, hq, rfl⟩
        · rw [hn] at hwant; cases hwant
    · rename_i hwant
      rw [if_neg hwant] at h
      exact wpList_of_tx hQ l _ _ C w hw h
/-- A region in the order of the text. -/
theorem wp_region_tx0 {id : Nat} {Q : Exit → Act → World → Prop} {a : Act} {w : World} {l : List Oper} {C : World → Prop} (hC : C w)
    (h : TX P l.toArray ev wk (fun a' C' => ∀ w', C' w' → Q .normal a' w') l 0 a C) : (Code.region id l.toArray false).wp P Q a w :=
  wp_region_lit (wpList_of_tx (K := fun a' C' => ∀ w', C' w' → Q .normal a' w') (fun _ _ w hw h => h w hw) l 0 a C w hC h)
end
end Go.Proofs.YtfolhmlldoepfaaGreatDoor
namespace Go.Proofs.YtfolhmlldoepfaaGreatDoor
open Go
/-- A piece of memory: what a world holds at some blocks; it hangs on these blocks alone. -/
structure Asn where
  p : World → (Nat → Prop) → Prop
  lt : ∀ {w F}, p w F → ∀ b, F b → b < w.heap.size
  loc : ∀ {w w' F}, p w F → (∀ b, F b → w'.heap[b]? = w.heap[b]?) → p w' F
/-- Pieces that stand apart from one another, in the blocks of F. -/
def Star (w : World) : List Asn → (Nat → Prop) → Prop
  | [], _ => True
  | A :: l, F => ∃ F1 F2 : Nat → Prop, A.p w F1 ∧ Star w l F2 ∧ (∀ b, F1 b → ¬ F2 b) ∧ (∀ b, F1 b ∨ F2 b → F b)
theorem Star.mono {w : World} : ∀ {l : List Asn} {F G : Nat → Prop}, Star w l F → (∀ b, F b → G b) → Star w l G
  | [], _, _, _, _ => trivial
  | _ :: _, _, _, ⟨F1, F2, h1, h2, h3, h4⟩, h => ⟨F1, F2, h1, h2, h3, fun b hb => h b (h4 b hb)⟩
theorem Star.tight {w : World} : ∀ {l : List Asn} {F : Nat → Prop}, Star w l F → Star w l (fun b => F b ∧ b < w.heap.size)
  | [], _, _ => trivial
  | A :: l, F, ⟨F1, F2, h1, h2, h3, h4⟩ => ⟨F1, fun b => F2 b ∧ b < w.heap.size, h1, Star.tight h2, fun b hb hc => h3 b hb hc.1, fun b hb => by
      rcases hb with hb | hb
      · exact ⟨h4 b (.inl hb), A.lt h1 b hb⟩
      · exact ⟨h4 b (.inr hb.1), hb.2⟩⟩
theorem Star.loc {w w' : World} : ∀ {l : List Asn} {F : Nat → Prop}, Star w l F → (∀ b, F b → w'.heap[b]? = w.heap[b]?) → Star w' l F
  | [], _, _, _ => trivial
  | A :: _, _, ⟨F1, F2, h1, h2, h3, h4⟩, h => ⟨F1, F2, A.loc h1 (fun b hb => h b (h4 b (.inl hb))), Star.loc h2 (fun b hb => h b (h4 b (.inr hb))), h3, h4⟩
theorem Star.swap {w : World} {A B : Asn} {l : List Asn} {F : Nat → Prop} (h : Star w (A :: B :: l) F) : Star w (B :: A :: l) F := by
  obtain ⟨F1, F2, h1, ⟨G1, G2, g1, g2, g3, g4⟩, h3, h4⟩ := h
  exact ⟨G1, fun b => F1 b ∨ G2 b, g1, ⟨F1, G2, h1, g2, fun b hb hc => h3 b hb (g4 b (.inr hc)), fun _ h => h⟩,
    fun b hb hc => hc.elim (fun hc => h3 b hc (g4 b (.inl hb))) (fun hc => g3 b hb hc),
    fun b hb => h4 b (by
      rcases hb with hb | hb | hb
      · exact .inr (g4 b (.inl hb))
      · exact .inl hb
      · exact .inr (g4 b (.inr hb)))⟩
theorem Star.perm {w : World} {l l' : List Asn} (hp : l.Perm l') : ∀ {F : Nat → Prop}, Star w l F → Star w l' F := by
  induction hp with
  | nil => exact fun h => h
  | cons A _ ih => exact fun ⟨F1, F2, h1, h2, h3, h4⟩ => ⟨F1, F2, h1, ih h2, h3, h4⟩
  | swap A B l => exact fun h => h.swap
  | trans _ _ ih1 ih2 => exact fun h => ih2 (ih1 h)
theorem Star.split {w : World} : ∀ {l1 l2 : List Asn} {F : Nat → Prop}, Star w (l1 ++ l2) F → ∃ F1 F2, Star w l1 F1 ∧ Star w l2 F2 ∧ (∀ b, F1 b → ¬ F2 b) ∧ (∀ b, F1 b ∨ F2 b → F b)
  | [], l2, F, h => ⟨fun _ => False, F, trivial, h, fun _ h => h.elim, fun _ h => h.elim False.elim id⟩
  | A :: l1, l2, F, ⟨F1, F2, h1, h2, h3, h4⟩ => by
    obtain ⟨G1, G2, g1, g2, g3, g4⟩ := Star.split (l1 := l1) h2
    exact ⟨fun b => F1 b ∨ G1 b, G2, ⟨F1, G1, h1, g1, fun b hb hc => h3 b hb (g4 b (.inl hc)), fun _ h => h⟩, g2,
      fun b hb hc => hb.elim (fun hb => h3 b hb (g4 b (.inr hc))) (fun hb => g3 b hb hc),
      fun b hb => h4 b (by
        rcases hb with (hb | hb) | hb
        · exact .inl hb
        · exact .inr (g4 b (.inl hb))
        · exact .inr (g4 b (.inr hb)))⟩
theorem Star.join {w : World} : ∀ {l1 l2 : List Asn} {F1 F2 F : Nat → Prop}, Star w l1 F1 → Star w l2 F2 → (∀ b, F1 b → ¬ F2 b) → (∀ b, F1 b ∨ F2 b → F b) → Star w (l1 ++ l2) F
  | [], _, _, _, _, _, h2, _, h4 => h2.mono fun b hb => h4 b (.inr hb)
  | A :: l1, l2, F1, F2, F, ⟨G1, G2, g1, g2, g3, g4⟩, h2, h3, h4 => ⟨G1, fun b => G2 b ∨ F2 b, g1, Star.join g2 h2 (fun b hb hc => h3 b (g4 b (.inr hb)) hc) (fun _ h => h),
      fun b hb hc => hc.elim (fun hc => g3 b hb hc) (fun hc => h3 b (g4 b (.inl hb)) hc),
      fun b hb => h4 b (by
        rcases hb with hb | hb | hb
        · exact .inl (g4 b (.inl hb))
        · exact .inl (g4 b (.inr hb))
        · exact .inr hb)⟩
theorem Star.drop {w : World} {A : Asn} {l : List Asn} {F : Nat → Prop} (h : Star w (A :: l) F) : Star w l F :=
  let ⟨_, _, _, h2, _, h4⟩ := h; h2.mono fun b hb => h4 b (.inr hb)
/-- Outside the blocks of S nothing has turned. -/
structure But (w w' : World) (S : Nat → Prop) : Prop where
  os : w'.os = w.os
  tape : w'.tape = w.tape
  output : w'.output = w.output
  size : w.heap.size ≤ w'.heap.size
  blk : ∀ k, k < w.heap.size → ¬ S k → w'.heap[k]? = w.heap[k]?
theorem But.refl (w : World) (S : Nat → Prop) : But w w S := ⟨rfl, rfl, rfl, Nat.le_refl _, fun _ _ _ => rfl⟩
/-- The pieces L, in a world that comes of w0, where the blocks of F0 alone (and new ones) may have turned. -/
def St (w0 : World) (F0 : Nat → Prop) (L : List Asn) (w : World) : Prop := ∃ F, Star w L F ∧ But w0 w F0 ∧ ∀ b, F b → F0 b ∨ w0.heap.size ≤ b
theorem St.start {w : World} {F : Nat → Prop} {L : List Asn} (h : Star w L F) : St w F L w := ⟨F, h, .refl _ _, fun _ h => .inl h⟩
theorem St.perm {w0 : World} {F0 : Nat → Prop} {L L' : List Asn} {w : World} (hp : L.Perm L') (h : St w0 F0 L w) : St w0 F0 L' w :=
  let ⟨F, h1, h2⟩ := h; ⟨F, h1.perm hp, h2⟩
theorem St.drop {w0 : World} {F0 : Nat → Prop} {A : Asn} {L : List Asn} {w : World} (h : St w0 F0 (A :: L) w) : St w0 F0 L w :=
  let ⟨F, h1, h2⟩ := h; ⟨F, h1.drop, h2⟩
theorem St.emp {w0 : World} {F0 : Nat → Prop} {L : List Asn} {w : World} (h : St w0 F0 L w) : St w0 F0 [] w :=
  let ⟨F, _, h2⟩ := h; ⟨F, trivial, h2⟩
/-- What leaves all old blocks as they were leaves the pieces. -/
theorem St.same {w0 : World} {F0 : Nat → Prop} {L : List Asn} {w w' : World} (h : St w0 F0 L w) (hb : But w w' (fun _ => False)) : St w0 F0 L w' := by
  obtain ⟨F, h1, h2, h3⟩ := h
  refine ⟨fun b => F b ∧ b < w.heap.size, h1.tight.loc (fun b hF => hb.blk b hF.2 id), ⟨hb.os.trans h2.os, hb.tape.trans h2.tape, hb.output.trans h2.output, Nat.le_trans h2.size hb.size, fun k hk hn => (hb.blk k (Nat.lt_of_lt_of_le hk h2.size) id).trans (h2.blk k hk hn)⟩, fun b hF => h3 b hF.1⟩
theorem But.drew (w : World) (n : Nat) (S : Nat → Prop) : But w { w with drawn := n } S := ⟨rfl, rfl, rfl, Nat.le_refl _, fun _ _ _ => rfl⟩
theorem But.alloc (w : World) (o : Obj) (S : Nat → Prop) : But w (w.alloc o) S := ⟨rfl, rfl, rfl, by simp, fun k hk _ => by
  show (w.heap.push o)[k]? = _
  rw [Array.getElem?_push, if_neg (by omega)]⟩
/-- A call: it takes some pieces and hands others back; the rest stays. -/
theorem St.call {w0 : World} {F0 : Nat → Prop} {pre post rest : List Asn} {w w' : World} (h : St w0 F0 (pre ++ rest) w)
    (hc : ∀ F1, Star w pre F1 → St w F1 post w') : St w0 F0 (post ++ rest) w' := by
  obtain ⟨F, h1, h2, h3⟩ := h
  obtain ⟨F1, F2, s1, s2, s3, s4⟩ := h1.tight.split
  obtain ⟨G, g1, g2, g3⟩ := hc F1 s1
  have t2 := s2.tight
  refine ⟨fun b => G b ∨ (F2 b ∧ b < w.heap.size), g1.join (t2.loc fun b hb => g2.blk b hb.2 fun hb1 => s3 b hb1 hb.1) (fun b hb hc => ?_) (fun _ h => h), ⟨g2.os.trans h2.os, g2.tape.trans h2.tape, g2.output.trans h2.output, Nat.le_trans h2.size g2.size, fun k hk hn => ?_⟩, fun b hb => ?_⟩
  · rcases g3 b hb with h | h
    · exact s3 b h hc.1
    · exact absurd hc.2 (by omega)
  · refine (g2.blk k (Nat.lt_of_lt_of_le hk h2.size) fun hk1 => ?_).trans (h2.blk k hk hn)
    rcases h3 k (s4 k (.inl hk1)).1 with h | h
    · exact hn h
    · omega
  · rcases hb with hb | hb
    · rcases g3 b hb with h | h
      · exact h3 b (s4 b (.inl h)).1
      · exact .inr (Nat.le_trans h2.size h)
    · exact h3 b (s4 b (.inr hb.1)).1
/-- One block holds just this. -/
def Blk (b : Nat) (o : Obj) : Asn where
  p w F := (∀ x, F x ↔ x = b) ∧ w.heap[b]? = some o
  lt := fun ⟨h1, h2⟩ x hx => by rw [(h1 x).1 hx]; exact (Array.getElem?_eq_some_iff.1 h2).1
  loc := fun ⟨h1, h2⟩ h => ⟨h1, (h b ((h1 b).2 rfl)).trans h2⟩
/-- There is an x such that .. -/
def Ex {X : Type} (f : X → Asn) : Asn where
  p w F := ∃ x, (f x).p w F
  lt := fun ⟨x, h⟩ => (f x).lt h
  loc := fun ⟨x, h⟩ hh => ⟨x, (f x).loc h hh⟩
/-- Several pieces as one. -/
def All (L : List Asn) : Asn where
  p w F := Star w L F ∧ ∀ b, F b → b < w.heap.size
  lt := fun h => h.2
  loc := fun {w w' F} ⟨h1, h2⟩ h => ⟨h1.loc h, fun b hb => by
    have hb' := h2 b hb
    have e := h b hb
    rw [Array.getElem?_eq_getElem hb'] at e
    exact (Array.getElem?_eq_some_iff.1 e).1⟩
theorem Star.unex {w : World} {X : Type} {f : X → Asn} {l : List Asn} {F : Nat → Prop} : Star w (Ex f :: l) F ↔ ∃ x, Star w (f x :: l) F :=
  ⟨fun ⟨F1, F2, ⟨x, h⟩, r⟩ => ⟨x, F1, F2, h, r⟩, fun ⟨x, F1, F2, h, r⟩ => ⟨F1, F2, ⟨x, h⟩, r⟩⟩
theorem Star.unall {w : World} {L l : List Asn} {F : Nat → Prop} : Star w (All L :: l) F ↔ Star w (L ++ l) F :=
  ⟨fun ⟨_, _, ⟨h, _⟩, r, h3, h4⟩ => h.join r h3 h4, fun h => by
    obtain ⟨F1, F2, s1, s2, s3, s4⟩ := h.split
    exact ⟨fun b => F1 b ∧ b < w.heap.size, F2, ⟨s1.tight, fun _ h => h.2⟩, s2, fun b hb hc => s3 b hb.1 hc, fun b hb => s4 b (hb.imp (·.1) id)⟩⟩
section
variable {w0 : World} {F0 : Nat → Prop} {L : List Asn} {w : World}
theorem St.ex {X : Type} {f : X → Asn} : St w0 F0 (Ex f :: L) w ↔ ∃ x, St w0 F0 (f x :: L) w :=
  ⟨fun ⟨F, h, r⟩ => let ⟨x, h'⟩ := Star.unex.1 h; ⟨x, F, h', r⟩, fun ⟨x, F, h, r⟩ => ⟨F, Star.unex.2 ⟨x, h⟩, r⟩⟩
theorem St.all {M : List Asn} : St w0 F0 (All M :: L) w ↔ St w0 F0 (M ++ L) w :=
  ⟨fun ⟨F, h, r⟩ => ⟨F, Star.unall.1 h, r⟩, fun ⟨F, h, r⟩ => ⟨F, Star.unall.2 h, r⟩⟩
theorem St.blk {b : Nat} {o : Obj} (h : St w0 F0 (Blk b o :: L) w) : w.heap[b]? = some o :=
  let ⟨_, ⟨_, _, ⟨_, h⟩, _⟩, _⟩ := h; h
/-- One block is written. -/
theorem St.put {b : Nat} {o o' : Obj} {w' : World} (h : St w0 F0 (Blk b o :: L) w) (hb : But w w' (fun x => x = b)) (ho : w'.heap[b]? = some o') : St w0 F0 (Blk b o' :: L) w' := by
  have := St.call (pre := [Blk b o]) (post := [Blk b o']) (rest := L) (w' := w') h (fun F1 hF => ⟨fun x => x = b, ⟨fun x => x = b, fun _ => False, ⟨fun _ => Iff.rfl, ho⟩, trivial, fun _ _ h => h, fun _ h => h.elim id False.elim⟩, ⟨hb.os, hb.tape, hb.output, hb.size, fun k hk hn => hb.blk k hk fun e => hn (by
    obtain ⟨G1, _, ⟨g, _⟩, _, _, g4⟩ := hF
    exact g4 k (.inl ((g k).2 e)))⟩, fun x hx => by
    obtain ⟨G1, _, ⟨g, _⟩, _, _, g4⟩ := hF
    exact .inl (g4 x (.inl ((g x).2 hx)))⟩)
  simpa using this
/-- A new block. -/
theorem St.new (h : St w0 F0 L w) (o : Obj) : St w0 F0 (Blk w.heap.size o :: L) (w.alloc o) := by
  have := St.call (pre := []) (post := [Blk w.heap.size o]) (rest := L) (w' := w.alloc o) h (fun F1 _ => ⟨fun x => x = w.heap.size, ⟨fun x => x = w.heap.size, fun _ => False, ⟨fun _ => Iff.rfl, by
    show (w.heap.push o)[w.heap.size]? = some o
    simp⟩, trivial, fun _ _ h => h, fun _ h => h.elim id False.elim⟩, .alloc _ _ _, fun x hx => .inr (Nat.le_of_eq hx.symm)⟩)
  simpa using this
end
/-- A at some place of L, L' the others. -/
inductive Pull : List Asn → Asn → List Asn → Prop
  | head {A : Asn} {l : List Asn} : Pull (A :: l) A l
  | tail {A B : Asn} {l l' : List Asn} (h : Pull l A l') : Pull (B :: l) A (B :: l')
theorem Pull.perm {L L' : List Asn} {A : Asn} (h : Pull L A L') : L.Perm (A :: L') := by
  induction h with
  | head => exact .refl _
  | tail _ ih => exact (ih.cons _).trans (.swap ..)
/-- The pieces M, one by one, out of L; L' the others. -/
inductive Pulls : List Asn → List Asn → List Asn → Prop
  | nil {L : List Asn} : Pulls L [] L
  | cons {L L' L'' M : List Asn} {A : Asn} (h : Pull L A L') (t : Pulls L' M L'') : Pulls L (A :: M) L''
theorem Pulls.perm {L M L' : List Asn} (h : Pulls L M L') : L.Perm (M ++ L') := by
  induction h with
  | nil => exact .refl _
  | cons h _ ih => exact h.perm.trans (ih.cons _)
theorem St.pulls {w0 : World} {F0 : Nat → Prop} {L M L' : List Asn} {w : World} (hp : Pulls L M L') (h : St w0 F0 L w) : St w0 F0 (M ++ L') w := h.perm hp.perm
theorem St.left {w0 : World} {F0 : Nat → Prop} {L M : List Asn} {w : World} (h : St w0 F0 (L ++ M) w) : St w0 F0 L w :=
  let ⟨F, h1, h2, h3⟩ := h
  let ⟨_, _, s1, _, _, s4⟩ := h1.split
  ⟨F, s1.mono fun b hb => s4 b (.inl hb), h2, h3⟩
/-- The pieces M are among L. -/
inductive Sub : List Asn → List Asn → Prop
  | nil {L : List Asn} : Sub L []
  | cons {L L' M : List Asn} {A : Asn} (h : Pull L A L') (t : Sub L' M) : Sub L (A :: M)
theorem Sub.pulls {L M : List Asn} (h : Sub L M) : ∃ R, Pulls L M R := by
  induction h with
  | nil => exact ⟨_, .nil⟩
  | cons h _ ih => obtain ⟨R, hR⟩ := ih; exact ⟨R, .cons h hR⟩
theorem St.sub {w0 : World} {F0 : Nat → Prop} {L M : List Asn} {w : World} (hs : Sub L M) (h : St w0 F0 L w) : St w0 F0 M w := by
  obtain ⟨R, hR⟩ := hs.pulls
  exact (h.pulls hR).left
end Go.Proofs.YtfolhmlldoepfaaGreatDoor
namespace Go.Proofs.YtfolhmlldoepfaaGreatDoor
open Go
abbrev Env := List (Nat × Value)
def Env.get : Env → Nat → Option Value
  | [], _ => none
  | (i, v) :: l, k => bif Nat.beq i k then some v else Env.get l k
def Env.op : Env → Operand → Option Value
  | e, .tmp t => e.get t
  | _, .const v => some v
  | _, .global g => some (.pointer (some ⟨g, 0, none⟩))
  | _, .func f => some (.func (.func f) #[] #[])
def Env.ops (e : Env) : List Operand → Option (List Value)
  | [] => some []
  | x :: l => match e.op x, Env.ops e l with
    | some v, some vs => some (v :: vs)
    | _, _ => none
def Env.put (e : Env) : Option Nat → Value → Env
  | some d, v => (d, v) :: e
  | none, _ => e
def okD (n : Nat) : Option Nat → Bool
  | some d => Nat.blt d n
  | none => true
structure Has (n : Nat) (ds : List Deferred) (a : Act) (e : Env) : Prop where
  size : a.tmps.size = n
  defers : a.defers = ds
  get : ∀ k v, e.get k = some v → a.tmps[k]? = some v
theorem Has.eval {n : Nat} {ds : List Deferred} {a : Act} {e : Env} (h : Has n ds a e) {x : Operand} {v : Value} (hx : e.op x = some v) : a.eval x = v := by
  cases x with
  | tmp t =>
    have := h.get t v hx
    show a.tmps.getD t undef = v
    simp [this]
  | const u => exact Option.some.inj hx
  | global g => exact Option.some.inj hx
  | func f => exact Option.some.inj hx
theorem Has.evals {n : Nat} {ds : List Deferred} {a : Act} {e : Env} (h : Has n ds a e) : ∀ {l : List Operand} {vs : List Value}, e.ops l = some vs → l.map a.eval = vs
  | [], _, hx => by cases hx; rfl
  | x :: l, vs, hx => by
    simp only [Env.ops] at hx
    split at hx
    · rename_i v us h1 h2
      cases hx
      simp [h.eval h1, h.evals h2]
    · cases hx
theorem Env.get_cons {i k : Nat} {v : Value} {e : Env} : Env.get ((i, v) :: e) k = if i = k then some v else e.get k := by
  show (bif Nat.beq i k then some v else e.get k) = _
  by_cases h : i = k
  · subst h; simp
  · have : Nat.beq i k = false := by
      cases h' : Nat.beq i k with
      | false => rfl
      | true => exact absurd (Nat.eq_of_beq_eq_true h') h
    simp [this, h]
theorem Has.put {n : Nat} {ds : List Deferred} {a : Act} {e : Env} (h : Has n ds a e) {dst : Option Tmp} (hd : okD n dst = true) (v : Value) : Has n ds (a.put dst v) (e.put dst v) := by
  cases dst with
  | none => exact h
  | some d =>
    have hd' : d < n := by simpa [okD] using hd
    refine ⟨by simp [Act.put, h.size], h.defers, fun k u hk => ?_⟩
    simp only [Env.put, Env.get_cons] at hk
    simp only [Act.put]
    by_cases hdk : d = k
    · subst hdk
      rw [if_pos rfl] at hk
      cases hk
      simp [h.size, hd']
    · rw [if_neg hdk] at hk
      rw [Array.getElem?_setIfInBounds_ne hdk]
      exact h.get k u hk
theorem Has.sub {n : Nat} {ds : List Deferred} {a : Act} {e e' : Env} (h : Has n ds a e) (hs : ∀ k v, e'.get k = some v → e.get k = some v) : Has n ds a e' :=
  ⟨h.size, h.defers, fun k v hk => h.get k v (hs k v hk)⟩
/-- What e' says e says, too. -/
inductive Keep (e : Env) : Env → Prop
  | nil : Keep e []
  | cons {k : Nat} {v : Value} {e' : Env} (h : e.get k = some v) (t : Keep e e') : Keep e ((k, v) :: e')
theorem Keep.get {e e' : Env} (h : Keep e e') : ∀ k v, e'.get k = some v → e.get k = some v := by
  induction h with
  | nil => intro k v hk; cases hk
  | cons h _ ih =>
    intro k v hk
    rw [Env.get_cons] at hk
    split at hk
    · rename_i e0; subst e0; cases hk; exact h
    · exact ih k v hk
section
variable {P : Program} {n : Nat} {ds : List Deferred} {ops : Array Oper} {ev wk : Nat → Bool} {K : Env → (World → Prop) → Prop} {r : List Oper} {o : Oper} {k : Nat} {e : Env} {C : World → Prop}
structure HX (P : Program) (n : Nat) (ds : List Deferred) (ops : Array Oper) (ev wk : Nat → Bool) (K : Env → (World → Prop) → Prop) (r : List Oper) (k : Nat) (e : Env) (C : World → Prop) : Prop where
  out : ∀ a, Has n ds a e → TX P ops ev wk (fun a' C' => ∃ e', Has n ds a' e' ∧ K e' C') r k a C
/-- The next operation is carried out. -/
structure HX1 (P : Program) (n : Nat) (ds : List Deferred) (ops : Array Oper) (ev wk : Nat → Bool) (K : Env → (World → Prop) → Prop) (o : Oper) (r : List Oper) (k : Nat) (e : Env) (C : World → Prop) : Prop where
  out : ∀ a, Has n ds a e → Region.wanted o (yielded ops a.tmps) = true →
    if ev k = true then ∀ w, C w → o.wp P a w (fun a' w' => ∃ C' : World → Prop, C' w' ∧ (wk k = true → ∀ x, C' x → C x) ∧ TX P ops ev wk (fun a' C' => ∃ e', Has n ds a' e' ∧ K e' C') r (k + 1) a' C') QN
    else ∃ v, YldK P ops o v a C ∧ TX P ops ev wk (fun a' C' => ∃ e', Has n ds a' e' ∧ K e' C') r (k + 1) (a.put o.dst v) C
theorem hx_nil (h : K e C) : HX P n ds ops ev wk K [] k e C := ⟨fun _ ha => ⟨e, ha, h⟩⟩
theorem hx_plain (hg : o.guard = none) (h : HX1 P n ds ops ev wk K o r k e C) : HX P n ds ops ev wk K (o :: r) k e C := ⟨fun a ha => by
  have hw : Region.wanted o (yielded ops a.tmps) = true := by simp [Region.wanted, hg]
  simp only [TX]
  rw [if_pos hw]
  exact h.out a ha hw⟩
theorem yielded_of {a : Act} (ha : Has n ds a e) {g t : Nat} {b : Bool} (hd : (ops[g]?).bind (·.dst) = some t) (ht : e.get t = some (.bool b)) : yielded ops a.tmps g = some b := by
  unfold yielded
  rw [hd]
  simp [ha.get _ _ ht]
theorem hx_yes {g t : Nat} {want : Bool} (hg : o.guard = some (g, want)) (hd : (ops[g]?).bind (·.dst) = some t) (ht : e.get t = some (.bool want)) (h : HX1 P n ds ops ev wk K o r k e C) :
    HX P n ds ops ev wk K (o :: r) k e C := ⟨fun a ha => by
  have hw : Region.wanted o (yielded ops a.tmps) = true := by simp [Region.wanted, hg, yielded_of ha hd ht]
  simp only [TX]
  rw [if_pos hw]
  exact h.out a ha hw⟩
theorem hx_skip {g t : Nat} {b want : Bool} {dd : Nat} (hg : o.guard = some (g, want)) (hd : (ops[g]?).bind (·.dst) = some t) (ht : e.get t = some (.bool b)) (hb : (b == want) = false) (hdst : o.dst = some dd) (hdd : okD n (some dd) = true) (h : HX P n ds ops ev wk K r (k + 1) ((dd, undef) :: e) C) :
    HX P n ds ops ev wk K (o :: r) k e C := ⟨fun a ha => by
  have hw : ¬ Region.wanted o (yielded ops a.tmps) = true := by
    simp only [Region.wanted, hg, yielded_of ha hd ht]
    intro h'
    have : b = want := by simpa using h'
    simp [this] at hb
  simp only [TX]
  rw [if_neg hw]
  exact h.out _ (by rw [hdst]; exact ha.put hdd _)⟩
theorem hx_skipU {g t : Nat} {want : Bool} {dd : Nat} (hg : o.guard = some (g, want)) (hd : (ops[g]?).bind (·.dst) = some t) (ht : e.get t = some undef) (hdst : o.dst = some dd) (hdd : okD n (some dd) = true) (h : HX P n ds ops ev wk K r (k + 1) ((dd, undef) :: e) C) :
    HX P n ds ops ev wk K (o :: r) k e C := ⟨fun a ha => by
  have hw : ¬ Region.wanted o (yielded ops a.tmps) = true := by
    have : yielded ops a.tmps g = none := by
      unfold yielded
      rw [hd]
      simp [ha.get _ _ ht, undef]
    simp [Region.wanted, hg, this]
  simp only [TX]
  rw [if_neg hw]
  exact h.out _ (by rw [hdst]; exact ha.put hdd _)⟩
/-- A slot that holds a test is looked at. -/
theorem hx_case {t : Nat} {b : Bool} (ht : e.get t = some (.bool b)) (h1 : b = true → HX P n ds ops ev wk K r k ((t, .bool true) :: e) C) (h2 : b = false → HX P n ds ops ev wk K r k ((t, .bool false) :: e) C) :
    HX P n ds ops ev wk K r k e C := ⟨fun a ha => by
  have key : ∀ c, b = c → Has n ds a ((t, .bool c) :: e) := fun c hc => ⟨ha.size, ha.defers, fun j v hj => by
    rw [Env.get_cons] at hj
    split at hj
    · rename_i e0; subst e0; cases hj; rw [← hc]; exact ha.get _ _ ht
    · exact ha.get j v hj⟩
  cases hb : b with
  | true => exact (h1 hb).out a (key _ hb)
  | false => exact (h2 hb).out a (key _ hb)⟩
theorem hx_caseD {t : Nat} {p : Prop} [Decidable p] (ht : e.get t = some (.bool (decide p))) (h1 : p → HX P n ds ops ev wk K r k ((t, .bool true) :: e) C) (h2 : ¬ p → HX P n ds ops ev wk K r k ((t, .bool false) :: e) C) :
    HX P n ds ops ev wk K r k e C :=
  hx_case ht (fun h => h1 (of_decide_eq_true h)) (fun h => h2 (of_decide_eq_false h))
/-- A test that stands ahead of the next operation is looked at. -/
theorem hx_gcase {g t : Nat} {b want : Bool} (_hg : o.guard = some (g, want)) (_hd : (ops[g]?).bind (·.dst) = some t) (ht : e.get t = some (.bool b)) (h1 : b = true → HX P n ds ops ev wk K (o :: r) k ((t, .bool true) :: e) C) (h2 : b = false → HX P n ds ops ev wk K (o :: r) k ((t, .bool false) :: e) C) :
    HX P n ds ops ev wk K (o :: r) k e C := hx_case ht h1 h2
theorem hx_gcaseD {g t : Nat} {p : Prop} [Decidable p] {want : Bool} (_hg : o.guard = some (g, want)) (_hd : (ops[g]?).bind (·.dst) = some t) (ht : e.get t = some (.bool (decide p))) (h1 : p → HX P n ds ops ev wk K (o :: r) k ((t, .bool true) :: e) C) (h2 : ¬ p → HX P n ds ops ev wk K (o :: r) k ((t, .bool false) :: e) C) :
    HX P n ds ops ev wk K (o :: r) k e C := hx_caseD ht h1 h2
theorem hx_gT {g t : Nat} {p : Prop} [Decidable p] {want : Bool} (_hg : o.guard = some (g, want)) (_hd : (ops[g]?).bind (·.dst) = some t) (ht : e.get t = some (.bool (decide p))) (hp : p) (h1 : HX P n ds ops ev wk K (o :: r) k ((t, .bool true) :: e) C) :
    HX P n ds ops ev wk K (o :: r) k e C := hx_caseD ht (fun _ => h1) (fun h => absurd hp h)
theorem hx_gF {g t : Nat} {p : Prop} [Decidable p] {want : Bool} (_hg : o.guard = some (g, want)) (_hd : (ops[g]?).bind (·.dst) = some t) (ht : e.get t = some (.bool (decide p))) (hp : ¬ p) (h2 : HX P n ds ops ev wk K (o :: r) k ((t, .bool false) :: e) C) :
    HX P n ds ops ev wk K (o :: r) k e C := hx_caseD ht (fun h => absurd h hp) (fun _ => h2)
theorem mHX (h : HX P n ds ops ev wk K r k e C) : HX P n ds ops ev wk K r k e C := h
theorem mHX1 (h : HX1 P n ds ops ev wk K o r k e C) : HX1 P n ds ops ev wk K o r k e C := h
theorem hx1_pure {v : Value} {dd : Nat} (hp : pureB o.op = true) (hdst : o.dst = some dd) (hd : okD n (some dd) = true) (hrun : ∀ a w, Has n ds a e → (execOp a.eval o).run P w = .ok (.value v) w)
    (h : HX P n ds ops ev wk K r (k + 1) ((dd, v) :: e) C) : HX1 P n ds ops ev wk K o r k e C := ⟨fun a ha hw => by
  have hput : Has n ds (a.put o.dst v) ((dd, v) :: e) := by rw [hdst]; exact ha.put hd v
  split
  · intro w hC
    unfold Oper.wp
    rw [hrun a w ha]
    exact ⟨C, hC, fun _ _ h => h, h.out _ hput⟩
  · exact ⟨v, by unfold YldK; rw [if_pos hp]; exact .inl ⟨hw, fun w _ => hrun a w ha⟩, h.out _ hput⟩⟩
theorem hx1_read {v : Value} {dd : Nat} (hp : pureB o.op = false) (hc : callB o.op = false) (hdst : o.dst = some dd) (hd : okD n (some dd) = true) (hrun : ∀ a w, Has n ds a e → C w → (execOp a.eval o).run P w = .ok (.value v) w)
    (h : HX P n ds ops ev wk K r (k + 1) ((dd, v) :: e) C) : HX1 P n ds ops ev wk K o r k e C := ⟨fun a ha hw => by
  have hput : Has n ds (a.put o.dst v) ((dd, v) :: e) := by rw [hdst]; exact ha.put hd v
  split
  · intro w hC
    unfold Oper.wp
    rw [hrun a w ha hC]
    exact ⟨C, hC, fun _ _ h => h, h.out _ hput⟩
  · exact ⟨v, by unfold YldK; rw [if_neg (by simp [hp]), if_neg (by simp [hc])]; exact .inl ⟨hw, fun w hC => hrun a w ha hC⟩, h.out _ hput⟩⟩
theorem hx1_event (hev : ev k = true) (hrun : ∀ a w, Has n ds a e → C w → o.wp P a w (fun a' w' => ∃ (C' : World → Prop) (e' : Env), C' w' ∧ (wk k = true → ∀ x, C' x → C x) ∧ Has n ds a' e' ∧ HX P n ds ops ev wk K r (k + 1) e' C') QN) :
    HX1 P n ds ops ev wk K o r k e C := ⟨fun a ha _ => by
  rw [if_pos hev]
  exact fun w hC => Oper.wp_mono (fun a' w' ⟨C', e', h1, h2, h3, h4⟩ => ⟨C', h1, h2, h4.out a' h3⟩) (hrun a w ha hC)⟩
theorem hx1_conv {C' : World → Prop} (hev : ev k = true) (hwk : wk k = false) (hc : ∀ w, C w → C' w) (h : HX1 P n ds ops ev wk K o r k e C') : HX1 P n ds ops ev wk K o r k e C := ⟨fun a ha hw => by
  have h1 := h.out a ha hw
  rw [if_pos hev] at h1 ⊢
  exact fun w hC => Oper.wp_mono (fun a' w' ⟨D, h2, _, h4⟩ => ⟨D, h2, (fun h => by rw [hwk] at h; cases h), h4⟩) (h1 w (hc w hC))⟩
end
end Go.Proofs.YtfolhmlldoepfaaGreatDoor
namespace Go.Proofs.YtfolhmlldoepfaaGreatDoor
open Go
def SizeOf (P : Program) (t : TypeId) (s : Nat) : Prop := ∃ i, P.info? t = some i ∧ i.size = s
def ZeroOf (P : Program) (t : TypeId) (z : Value) : Prop := ∃ i, P.info? t = some i ∧ i.zero = some z
/-- The field f of the struct type s lies at fo and is of the type ty. -/
def FieldAt (P : Program) (s f fo ty : Nat) : Prop := ∃ (fs : Array Field) (fd : Field), P.underlying s = some (.struct fs) ∧ fs[f]? = some fd ∧ fd.offset = fo ∧ fd.type = ty ∧ ∃ z, SizeOf P ty z ∧ z ≠ 0
/-- The i-th. -/
def nth {α : Type} : List α → Nat → Option α
  | [], _ => none
  | a :: _, 0 => some a
  | _ :: l, i + 1 => nth l i
theorem nth_eq {α : Type} : ∀ (l : List α) (i : Nat), nth l i = l[i]?
  | [], _ => rfl
  | _ :: _, 0 => rfl
  | _ :: l, i + 1 => by simp [nth, nth_eq l i]
theorem nth_at {α : Type} {a : Array α} {i : Nat} {x : α} (h : nth a.toList i = some x) : a[i]? = some x := by rw [nth_eq] at h; simpa using h
/-- What the program says of its types, to be found by Lean itself. -/
class UC (P : Program) (t : Nat) (d : outParam TypeDesc) : Prop where
  out : P.underlying t = some d
class IC (P : Program) (t : Nat) (s b : outParam Nat) (z : outParam Value) : Prop where
  out : ∃ i, P.info? t = some i ∧ i.size = s ∧ i.bytes = b ∧ i.zero = some z
class FC (P : Program) (s f : Nat) (fo ty : outParam Nat) : Prop where
  out : FieldAt P s f fo ty
theorem IC.size {P : Program} {t s b : Nat} {z : Value} [h : IC P t s b z] : SizeOf P t s := let ⟨i, h1, h2, _⟩ := h.out; ⟨i, h1, h2⟩
theorem IC.zero {P : Program} {t s b : Nat} {z : Value} [h : IC P t s b z] : ZeroOf P t z := let ⟨i, h1, _, _, h2⟩ := h.out; ⟨i, h1, h2⟩
class EC (P : Program) (f : Nat) : Prop where
  out : ∀ args w, (callFunc f args).run P w = .ok (.enter f args) w
def aggD : TypeDesc → Bool
  | .struct _ => true
  | .array _ _ => true
  | _ => false
section
variable {P : Program} {w : World}
theorem run_und {t : TypeId} {d : TypeDesc} (h : P.underlying t = some d) : (underlying t).run P w = .ok d w := by
  simp [underlying, h]
theorem run_size {t : TypeId} {s : Nat} (h : SizeOf P t s) : (sizeOf t).run P w = .ok s w := by
  obtain ⟨i, h1, h2⟩ := h
  simp [sizeOf, typeInfo, h1, h2]
theorem run_zero {t : TypeId} {z : Value} (h : ZeroOf P t z) : (zeroValue t).run P w = .ok z w := by
  obtain ⟨i, h1, h2⟩ := h
  simp [zeroValue, typeInfo, h1, h2]
theorem run_isAgg {t : TypeId} {d : TypeDesc} (h : P.underlying t = some d) : (isAgg t).run P w = .ok (aggD d) w := by
  simp [isAgg, run_und h]
  cases d <;> simp [aggD]
theorem run_equalB {t : TypeId} {a b : Bool} (h : P.underlying t = some .bool) : (Op.equal t (.bool a) (.bool b)).run P w = .ok (a == b) w := by
  show Sem.run P (Op.equalIn (9999 + 1) t _ _) w = _
  rw [Op.equalIn]
  simp [run_und h]
theorem run_load1 {t : TypeId} {d : TypeDesc} {a : Addr} {v : Value} (h : P.underlying t = some d) (hd : aggD d = false) (hc : w.cell? a = some v) : (Instr.loadAt t (.pointer (some a))).run P w = .ok v w := by
  simp [Instr.loadAt, Instr.sureAddr, loadVar, run_isAgg h, hd, hc]
theorem run_loadN {t : TypeId} {d : TypeDesc} {a : Addr} {s : Nat} {vs : List Value} (h : P.underlying t = some d) (hd : aggD d = true) (hs : SizeOf P t s) (hl : vs.length = s) (hc : ∀ j v, vs[j]? = some v → w.cell? (a.add j) = some v) :
    (Instr.loadAt t (.pointer (some a))).run P w = .ok (.agg vs.toArray) w := by
  simp [Instr.loadAt, Instr.sureAddr, loadVar, run_isAgg h, hd, run_size hs, ← hl, run_loadCells_list w a vs hc]
end
section
variable {P : Program} {n : Nat} {ds : List Deferred} {ops : Array Oper} {ev wk : Nat → Bool} {K : Env → (World → Prop) → Prop} {r : List Oper} {o : Oper} {k : Nat} {e : Env} {C : World → Prop}
theorem kLoad {t : TypeId} {x : Operand} (_ho : o.op = .load t x) (h : HX1 P n ds ops ev wk K o r k e C) : HX1 P n ds ops ev wk K o r k e C := h
theorem kStore {t : TypeId} {x y : Operand} (_ho : o.op = .store t x y) (h : HX1 P n ds ops ev wk K o r k e C) : HX1 P n ds ops ev wk K o r k e C := h
theorem kBin {op : BinOp} {t t2 : TypeId} {x y : Operand} (_ho : o.op = .binOp op t x y t2) (h : HX1 P n ds ops ev wk K o r k e C) : HX1 P n ds ops ev wk K o r k e C := h
theorem h_move {x : Operand} {v : Value} (ho : o.op = .move x) (hx : e.op x = some v) {dd : Nat} (hdst : o.dst = some dd) (hd : okD n (some dd) = true) (h : HX P n ds ops ev wk K r (k + 1) ((dd, v) :: e) C) : HX1 P n ds ops ev wk K o r k e C :=
  hx1_pure (by rw [ho]; rfl) hdst hd (fun a w ha => by simp [execOp, ho, ha.eval hx]) h
theorem h_assign {x : Operand} {v : Value} (ho : o.op = .assign x) (hx : e.op x = some v) {dd : Nat} (hdst : o.dst = some dd) (hd : okD n (some dd) = true) (h : HX P n ds ops ev wk K r (k + 1) ((dd, v) :: e) C) : HX1 P n ds ops ev wk K o r k e C :=
  hx1_pure (by rw [ho]; rfl) hdst hd (fun a w ha => by simp [execOp, ho, ha.eval hx]) h
theorem h_pickT {c x y : Operand} {v : Value} (ho : o.op = .pick c x y) (hc : e.op c = some (.bool true)) (hx : e.op x = some v) {dd : Nat} (hdst : o.dst = some dd) (hd : okD n (some dd) = true) (h : HX P n ds ops ev wk K r (k + 1) ((dd, v) :: e) C) : HX1 P n ds ops ev wk K o r k e C :=
  hx1_pure (by rw [ho]; rfl) hdst hd (fun a w ha => by simp [execOp, ho, ha.eval hc, ha.eval hx, asBool]) h
theorem h_pickF {c x y : Operand} {v : Value} (ho : o.op = .pick c x y) (hc : e.op c = some (.bool false)) (hy : e.op y = some v) {dd : Nat} (hdst : o.dst = some dd) (hd : okD n (some dd) = true) (h : HX P n ds ops ev wk K r (k + 1) ((dd, v) :: e) C) : HX1 P n ds ops ev wk K o r k e C :=
  hx1_pure (by rw [ho]; rfl) hdst hd (fun a w ha => by simp [execOp, ho, ha.eval hc, ha.eval hy, asBool]) h
theorem h_nilCheck {x : Operand} {a0 : Addr} (ho : o.op = .nilCheck x) (hx : e.op x = some (.pointer (some a0))) {dd : Nat} (hdst : o.dst = some dd) (hd : okD n (some dd) = true) (h : HX P n ds ops ev wk K r (k + 1) ((dd, (.pointer (some a0))) :: e) C) : HX1 P n ds ops ev wk K o r k e C :=
  hx1_pure (by rw [ho]; rfl) hdst hd (fun a w ha => by simp [execOp, ho, ha.eval hx]) h
/-- The place of a field. -/
theorem h_fieldAddr {s f b off fo ty : Nat} {x : Operand} (ho : o.op = .fieldAddr s x f) (hx : e.op x = some (.pointer (some ⟨b, off, none⟩))) (hf : FieldAt P s f fo ty)
    {dd : Nat} (hdst : o.dst = some dd) (hd : okD n (some dd) = true) (h : HX P n ds ops ev wk K r (k + 1) ((dd, .pointer (some ⟨b, off + fo, none⟩)) :: e) C) : HX1 P n ds ops ev wk K o r k e C :=
  hx1_pure (by rw [ho]; rfl) hdst hd (fun a w ha => by
    obtain ⟨fs, fd, hu, hf, rfl, rfl, z, hs, hz⟩ := hf
    have e1 : (⟨b, off, none⟩ : Addr).add fd.offset = ⟨b, off + fd.offset, none⟩ := by
      unfold Addr.add
      split
      · rename_i h0; rw [h0]; rfl
      · rfl
    simp [execOp, ho, ha.eval hx, Instr.fieldAt, run_und hu, hf, Instr.sureAddr, fieldPlace, run_size hs, hz, e1]) h
/-- .. of what a pointer to the begin of a block points to. -/
theorem h_fieldAddr0 {s f b fo ty : Nat} {x : Operand} (ho : o.op = .fieldAddr s x f) (hx : e.op x = some (.pointer (some ⟨b, 0, none⟩))) (hf : FieldAt P s f fo ty)
    {dd : Nat} (hdst : o.dst = some dd) (hd : okD n (some dd) = true) (h : HX P n ds ops ev wk K r (k + 1) ((dd, .pointer (some ⟨b, fo, none⟩)) :: e) C) : HX1 P n ds ops ev wk K o r k e C :=
  h_fieldAddr ho hx hf hdst hd (by rw [Nat.zero_add]; exact h)
/-- The place of an element of a slice. -/
theorem h_indexAddr {t el b off len cap sz : Nat} {x y : Operand} {kk : IntKind} {i : Int} (ho : o.op = .indexAddr t x y) (hx : e.op x = some (.slice (some ⟨b, off, none⟩) len cap)) (hy : e.op y = some (.int kk i)) (hu : P.underlying t = some (.slice el)) (hs : SizeOf P el sz)
    (h0 : 0 ≤ i) (h1 : i < len) {dd : Nat} (hdst : o.dst = some dd) (hd : okD n (some dd) = true) (h : HX P n ds ops ev wk K r (k + 1) ((dd, (.pointer (some ⟨b, off + i.toNat * sz, none⟩))) :: e) C) : HX1 P n ds ops ev wk K o r k e C :=
  hx1_pure (by rw [ho]; rfl) hdst hd (fun a w ha => by
    have e1 : (⟨b, off, none⟩ : Addr).add (i.toNat * sz) = ⟨b, off + i.toNat * sz, none⟩ := by
      unfold Addr.add
      split
      · rename_i h0; rw [h0]; rfl
      · rfl
    simp [execOp, ho, ha.eval hx, ha.eval hy, Instr.indexAt, asIntOf, run_und hu, h0, h1, run_size hs, e1]) h
theorem h_extract {x : Operand} {ix : Nat} {vs : Array Value} {v : Value} (ho : o.op = .extract x ix) (hx : e.op x = some (.tuple vs)) (hv : nth vs.toList ix = some v) {dd : Nat} (hdst : o.dst = some dd) (hd : okD n (some dd) = true) (h : HX P n ds ops ev wk K r (k + 1) ((dd, v) :: e) C) : HX1 P n ds ops ev wk K o r k e C :=
  hx1_pure (by rw [ho]; rfl) hdst hd (fun a w ha => by
    have hv' : vs[ix]? = some v := by rw [nth_eq] at hv; simpa using hv
    simp [execOp, ho, ha.eval hx, Instr.extract, hv']) h
theorem h_len_slice {x : Operand} {t : TypeId} {ats : Array TypeId} {ty : TypeId} {el : TypeId} {a0 : Option Addr} {len cap : Nat} (ho : o.op = .call { callee := .builtin .len, args := #[x], argTypes := ats }) (hat : nth ats.toList 0 = some t) (_hty : o.type = ty) (hu : P.underlying t = some (.slice el))
    (hx : e.op x = some (.slice a0 len cap)) {dd : Nat} (hdst : o.dst = some dd) (hd : okD n (some dd) = true) (h : HX P n ds ops ev wk K r (k + 1) ((dd, (.int .i64 (len : Int))) :: e) C) : HX1 P n ds ops ev wk K o r k e C :=
  hx1_pure (by rw [ho]; rfl) hdst hd (fun a w ha => by
    simp [execOp, ho, resolve, invoke, builtin, Builtin.len_, ha.eval hx, nth_at hat, run_und hu, goInt]) h
theorem h_len_str {x : Operand} {t : TypeId} {ats : Array TypeId} {s : ByteArray} (ho : o.op = .call { callee := .builtin .len, args := #[x], argTypes := ats }) (hat : nth ats.toList 0 = some t) (hu : P.underlying t = some .string)
    (hx : e.op x = some (.string s)) {dd : Nat} (hdst : o.dst = some dd) (hd : okD n (some dd) = true) (h : HX P n ds ops ev wk K r (k + 1) ((dd, (.int .i64 (s.size : Int))) :: e) C) : HX1 P n ds ops ev wk K o r k e C :=
  hx1_pure (by rw [ho]; rfl) hdst hd (fun a w ha => by
    simp [execOp, ho, resolve, invoke, builtin, Builtin.len_, ha.eval hx, nth_at hat, run_und hu, goInt]) h
theorem h_cmp {op : BinOp} {t t2 : TypeId} {x y : Operand} {q : IntKind} {a b : Int} {v : Value} (ho : o.op = .binOp op t x y t2) (hx : e.op x = some (.int q a)) (hy : e.op y = some (.int q b))
    (hv : (match op with | .eql => some (Value.bool (decide (a = b))) | .neq => some (.bool (decide (a ≠ b))) | .lss => some (.bool (decide (a < b))) | .leq => some (.bool (decide (a ≤ b))) | .gtr => some (.bool (decide (a > b))) | .geq => some (.bool (decide (a ≥ b))) | _ => none) = some v)
    {dd : Nat} (hdst : o.dst = some dd) (hd : okD n (some dd) = true) (h : HX P n ds ops ev wk K r (k + 1) ((dd, v) :: e) C) : HX1 P n ds ops ev wk K o r k e C :=
  hx1_pure (by rw [ho]; rfl) hdst hd (fun a' w ha => by
    cases op <;> simp at hv <;> subst hv <;> simp [execOp, ho, eqGuard, binOp, ha.eval hx, ha.eval hy, Op.intCmp]
    · by_cases hab : a = b <;> simp [hab]
    · by_cases hab : a = b <;> simp [hab]) h
theorem h_arith {op : BinOp} {t t2 : TypeId} {x y : Operand} {q : IntKind} {a b c : Int} (ho : o.op = .binOp op t x y t2) (hx : e.op x = some (.int q a)) (hy : e.op y = some (.int q b))
    (hv : (match op with | .add => some (q.wrap (a + b)) | .sub => some (q.wrap (a - b)) | .mul => some (q.wrap (a * b)) | _ => none) = some c)
    {dd : Nat} (hdst : o.dst = some dd) (hd : okD n (some dd) = true) (h : HX P n ds ops ev wk K r (k + 1) ((dd, (.int q c)) :: e) C) : HX1 P n ds ops ev wk K o r k e C :=
  hx1_pure (by rw [ho]; rfl) hdst hd (fun a' w ha => by
    cases op <;> simp at hv <;> subst hv <;> simp [execOp, ho, eqGuard, binOp, ha.eval hx, ha.eval hy, Op.intArith]) h
theorem h_quo {t t2 : TypeId} {x y : Operand} {q : IntKind} {a b : Int} (ho : o.op = .binOp .quo t x y t2) (hx : e.op x = some (.int q a)) (hy : e.op y = some (.int q b)) (hb : b ≠ 0)
    {dd : Nat} (hdst : o.dst = some dd) (hd : okD n (some dd) = true) (h : HX P n ds ops ev wk K r (k + 1) ((dd, (.int q (q.wrap (a.tdiv b)))) :: e) C) : HX1 P n ds ops ev wk K o r k e C :=
  hx1_pure (by rw [ho]; rfl) hdst hd (fun a' w ha => by
    simp [execOp, ho, eqGuard, binOp, ha.eval hx, ha.eval hy, Op.intDiv, hb]) h
theorem h_rem {t t2 : TypeId} {x y : Operand} {q : IntKind} {a b : Int} (ho : o.op = .binOp .rem t x y t2) (hx : e.op x = some (.int q a)) (hy : e.op y = some (.int q b)) (hb : b ≠ 0)
    {dd : Nat} (hdst : o.dst = some dd) (hd : okD n (some dd) = true) (h : HX P n ds ops ev wk K r (k + 1) ((dd, (.int q (a.tmod b))) :: e) C) : HX1 P n ds ops ev wk K o r k e C :=
  hx1_pure (by rw [ho]; rfl) hdst hd (fun a' w ha => by
    simp [execOp, ho, eqGuard, binOp, ha.eval hx, ha.eval hy, Op.intDiv, hb]) h
theorem h_cmpS {op : BinOp} {t t2 : TypeId} {x y : Operand} {a b : ByteArray} {v : Value} (ho : o.op = .binOp op t x y t2) (hx : e.op x = some (.string a)) (hy : e.op y = some (.string b))
    (hv : (match op with | .eql => some (Value.bool (a.toList == b.toList)) | .neq => some (.bool (!(a.toList == b.toList))) | .lss => some (.bool (Op.bytesLess a.toList b.toList)) | .leq => some (.bool (Op.bytesLess a.toList b.toList || a.toList == b.toList)) | .gtr => some (.bool (!(Op.bytesLess a.toList b.toList || a.toList == b.toList))) | .geq => some (.bool (!(Op.bytesLess a.toList b.toList))) | _ => none) = some v)
    {dd : Nat} (hdst : o.dst = some dd) (hd : okD n (some dd) = true) (h : HX P n ds ops ev wk K r (k + 1) ((dd, v) :: e) C) : HX1 P n ds ops ev wk K o r k e C :=
  hx1_pure (by rw [ho]; rfl) hdst hd (fun a' w ha => by
    cases op <;> simp at hv <;> subst hv <;> simp [execOp, ho, eqGuard, binOp, ha.eval hx, ha.eval hy, Op.stringOp]) h
/-- .. where the result is an int. -/
theorem h_arithI {op : BinOp} {t t2 : TypeId} {x y : Operand} {a b c : Int} (ho : o.op = .binOp op t x y t2) (hx : e.op x = some (.int .i64 a)) (hy : e.op y = some (.int .i64 b))
    (hv : (match op with | .add => some (a + b) | .sub => some (a - b) | .mul => some (a * b) | _ => none) = some c) (hc : -9223372036854775808 ≤ c ∧ c ≤ 9223372036854775807)
    {dd : Nat} (hdst : o.dst = some dd) (hd : okD n (some dd) = true) (h : HX P n ds ops ev wk K r (k + 1) ((dd, .int .i64 c) :: e) C) : HX1 P n ds ops ev wk K o r k e C :=
  h_arith ho hx hy (c := c) (by cases op <;> simp at hv <;> subst hv <;> simp only [Option.some.injEq] <;> exact IntWalk.i64_in _ hc) hdst hd h
theorem h_quoI {t t2 : TypeId} {x y : Operand} {a b : Int} (ho : o.op = .binOp .quo t x y t2) (hx : e.op x = some (.int .i64 a)) (hy : e.op y = some (.int .i64 b)) (hb : 0 ≤ a ∧ a ≤ 9223372036854775807 ∧ 1 ≤ b)
    {dd : Nat} (hdst : o.dst = some dd) (hd : okD n (some dd) = true) (h : HX P n ds ops ev wk K r (k + 1) ((dd, .int .i64 (a / b)) :: e) C) : HX1 P n ds ops ev wk K o r k e C :=
  h_quo ho hx hy (by omega) hdst hd (by rw [IntWalk.i64_quo a b hb]; exact h)
theorem h_remI {t t2 : TypeId} {x y : Operand} {a b : Int} (ho : o.op = .binOp .rem t x y t2) (hx : e.op x = some (.int .i64 a)) (hy : e.op y = some (.int .i64 b)) (hb : 0 ≤ a ∧ b ≠ 0)
    {dd : Nat} (hdst : o.dst = some dd) (hd : okD n (some dd) = true) (h : HX P n ds ops ev wk K r (k + 1) ((dd, .int .i64 (a % b)) :: e) C) : HX1 P n ds ops ev wk K o r k e C :=
  h_rem ho hx hy hb.2 hdst hd (by rw [Int.tmod_eq_emod_of_nonneg hb.1]; exact h)
theorem h_not {t : TypeId} {x : Operand} {b : Bool} (ho : o.op = .unOp .not t x) (hx : e.op x = some (.bool b)) {dd : Nat} (hdst : o.dst = some dd) (hd : okD n (some dd) = true) (h : HX P n ds ops ev wk K r (k + 1) ((dd, (.bool (!b))) :: e) C) : HX1 P n ds ops ev wk K o r k e C :=
  hx1_pure (by rw [ho]; rfl) hdst hd (fun a' w ha => by simp [execOp, ho, ha.eval hx, Op.unary]) h
theorem h_cmpB {op : BinOp} {t t2 : TypeId} {x y : Operand} {a b : Bool} {v : Value} (ho : o.op = .binOp op t x y t2) (hx : e.op x = some (.bool a)) (hy : e.op y = some (.bool b)) (hu : P.underlying t = some .bool)
    (hv : (match op with | .eql => some (Value.bool (a == b)) | .neq => some (.bool (a != b)) | _ => none) = some v)
    {dd : Nat} (hdst : o.dst = some dd) (hd : okD n (some dd) = true) (h : HX P n ds ops ev wk K r (k + 1) ((dd, v) :: e) C) : HX1 P n ds ops ev wk K o r k e C :=
  hx1_pure (by rw [ho]; rfl) hdst hd (fun a' w ha => by
    cases op <;> simp at hv <;> subst hv <;> simp [execOp, ho, eqGuard, binOp, ha.eval hx, ha.eval hy, run_equalB hu]
    cases a <;> cases b <;> rfl) h
end
end Go.Proofs.YtfolhmlldoepfaaGreatDoor
namespace Go.Proofs.YtfolhmlldoepfaaGreatDoor
open Go
theorem blk_cell {w : World} {b : Nat} {cs : Array Value} {t : TypeId} {fz : Nat × Nat} (h : w.heap[b]? = some (.cells cs t fz)) (i : Nat) : w.cell? ⟨b, i, none⟩ = cs[i]? := by
  simp [World.cell?, h]
theorem blk_free {w : World} {b : Nat} {cs : Array Value} {t : TypeId} (h : w.heap[b]? = some (.cells cs t (0, 0))) (i : Nat) : w.frozen? ⟨b, i, none⟩ = false := by
  simp [World.frozen?, h]
theorem set_blk {w : World} {b : Nat} {cs : Array Value} {t : TypeId} {fz : Nat × Nat} (h : w.heap[b]? = some (.cells cs t fz)) (i : Nat) (v : Value) : (w.setCell ⟨b, i, none⟩ v).heap[b]? = some (.cells (cs.setIfInBounds i v) t fz) := by
  simp [World.setCell, Array.getElem?_modify, h]
theorem set_but (w : World) (b i : Nat) (v : Value) : But w (w.setCell ⟨b, i, none⟩ v) (fun x => x = b) :=
  ⟨rfl, rfl, rfl, by simp, fun k _ hn => by simp only [World.setCell, Array.getElem?_modify]; rw [if_neg (by intro h; exact hn h.symm)]⟩
theorem But.trans {a b c : World} {S : Nat → Prop} (h : But a b S) (k : But b c S) : But a c S :=
  ⟨k.os.trans h.os, k.tape.trans h.tape, k.output.trans h.output, Nat.le_trans h.size k.size, fun i hi hn => (k.blk i (Nat.lt_of_lt_of_le hi h.size) hn).trans (h.blk i hi hn)⟩
/-- Cells written one behind the other. -/
def setMany (cs : Array Value) (i : Nat) : List Value → Array Value
  | [] => cs
  | v :: l => setMany (cs.setIfInBounds i v) (i + 1) l
theorem setMany_size (l : List Value) : ∀ (cs : Array Value) (i : Nat), (setMany cs i l).size = cs.size := by
  induction l with
  | nil => intro cs i; rfl
  | cons v l ih => intro cs i; simp [setMany, ih]
theorem setMany_get (l : List Value) : ∀ (cs : Array Value) (i j : Nat), i + l.length ≤ cs.size → (setMany cs i l)[j]? = if i ≤ j ∧ j < i + l.length then l[j - i]? else cs[j]? := by
  induction l with
  | nil => intro cs i j _; simp [setMany]; intro h1 h2; omega
  | cons v l ih =>
    intro cs i j h
    simp only [List.length_cons] at h ⊢
    rw [setMany, ih _ _ _ (by simp; omega)]
    by_cases e : j = i
    · subst e
      rw [if_neg (by omega), if_pos (by omega), Array.getElem?_setIfInBounds_self_of_lt (by omega)]
      simp
    · by_cases e2 : i + 1 ≤ j ∧ j < i + 1 + l.length
      · rw [if_pos e2, if_pos (by omega)]
        obtain ⟨d, rfl⟩ : ∃ d, j = i + 1 + d := ⟨j - (i + 1), by omega⟩
        rw [show i + 1 + d - (i + 1) = d by omega, show i + 1 + d - i = d + 1 by omega]
        simp
      · rw [if_neg e2, if_neg (by omega), Array.getElem?_setIfInBounds_ne (by omega)]
section
variable {P : Program}
theorem run_storeCells {b : Nat} {t : TypeId} {off : Nat} : ∀ (vs : List Value) (i : Nat) (cs : Array Value) (w : World), w.heap[b]? = some (.cells cs t (0, 0)) → off + i + vs.length ≤ cs.size → (∀ v ∈ vs, v.oneCell' = true) →
    ∃ w', (storeCells ⟨b, off, none⟩ vs i).run P w = .ok () w' ∧ But w w' (fun x => x = b) ∧ w'.heap[b]? = some (.cells (setMany cs (off + i) vs) t (0, 0)) := by
  intro vs
  induction vs with
  | nil => intro i cs w h _ _; exact ⟨w, by simp [storeCells], .refl _ _, h⟩
  | cons v vs ih =>
    intro i cs w h hl h1
    simp only [List.length_cons] at hl
    have e1 : (⟨b, off, none⟩ : Addr).add i = ⟨b, off + i, none⟩ := by
      unfold Addr.add
      split
      · rename_i h0; rw [h0]; rfl
      · rfl
    obtain ⟨w', hr, hb, hh⟩ := ih (i + 1) (cs.setIfInBounds (off + i) v) (w.setCell ⟨b, off + i, none⟩ v) (set_blk h _ _) (by simp; omega) (fun v hv => h1 v (List.mem_cons_of_mem _ hv))
    refine ⟨w', ?_, (set_but w b (off + i) v).trans hb, hh⟩
    have hc : (w.cell? ⟨b, off + i, none⟩) = some (cs[off + i]'(by omega)) := by rw [blk_cell h]; exact Array.getElem?_eq_getElem _
    have hst := run_store P w ⟨b, off + i, none⟩ v .plain (h1 v (List.mem_cons_self ..))
    unfold storeCells
    simp only [e1]
    rw [Sem.run_bind]
    rw [hst]
    rw [hc, blk_free h]
    exact hr
theorem run_storeAt {b off s : Nat} {t ty : TypeId} {v : Value} {cs : Array Value} {w : World} (h : w.heap[b]? = some (.cells cs t (0, 0))) (hs : SizeOf P ty s) (hl : v.cells.size = s) (hr : off + s ≤ cs.size) (h1 : ∀ u ∈ v.cells.toList, u.oneCell' = true) :
    ∃ w', (Instr.storeAt ty (.pointer (some ⟨b, off, none⟩)) v).run P w = .ok () w' ∧ But w w' (fun x => x = b) ∧ w'.heap[b]? = some (.cells (setMany cs off v.cells.toList) t (0, 0)) := by
  obtain ⟨w', e, hb, hh⟩ := run_storeCells (P := P) (off := off) v.cells.toList 0 cs w h (by simpa [hl] using hr) h1
  exact ⟨w', by simp [Instr.storeAt, Instr.sureAddr, storeVar, run_size hs, hl, e], hb, hh⟩
end
section
variable {P : Program} {n : Nat} {ds : List Deferred} {ops : Array Oper} {ev wk : Nat → Bool} {K : Env → (World → Prop) → Prop} {r : List Oper} {o : Oper} {k : Nat} {e : Env} {w0 : World} {F0 : Nat → Prop} {L L' : List Asn}
theorem St.get {A : Asn} {w : World} (h : St w0 F0 L w) (hp : Pull L A L') : ∃ F, A.p w F :=
  let ⟨_, ⟨F1, _, h1, _⟩, _⟩ := h.perm hp.perm; ⟨F1, h1⟩
/-- A load of one cell. -/
theorem h_load {t b off : Nat} {x : Operand} {cs : Array Value} {bt : TypeId} {fz : Nat × Nat} {d : TypeDesc} {v : Value} (ho : o.op = .load t x) (hx : e.op x = some (.pointer (some ⟨b, off, none⟩))) (hu : P.underlying t = some d) (hna : aggD d = false)
    (hp : Pull L (Blk b (.cells cs bt fz)) L') (hv : nth cs.toList off = some v) {dd : Nat} (hdst : o.dst = some dd) (hd : okD n (some dd) = true) (h : HX P n ds ops ev wk K r (k + 1) ((dd, v) :: e) (St w0 F0 L)) : HX1 P n ds ops ev wk K o r k e (St w0 F0 L) :=
  hx1_read (by rw [ho]; rfl) (by rw [ho]; rfl) hdst hd (fun a w ha hC => by
    obtain ⟨F, _, hb⟩ := hC.get hp
    simp [execOp, ho, ha.eval hx, run_load1 hu hna ((blk_cell hb off).trans (by rw [nth_eq] at hv; simpa using hv))]) h
/-- A load of several cells. -/
theorem h_loadN {t b off s : Nat} {x : Operand} {cs : Array Value} {bt : TypeId} {fz : Nat × Nat} {d : TypeDesc} {vs : List Value} (ho : o.op = .load t x) (hx : e.op x = some (.pointer (some ⟨b, off, none⟩))) (hu : P.underlying t = some d) (hna : aggD d = true) (hs : SizeOf P t s)
    (hp : Pull L (Blk b (.cells cs bt fz)) L') (hl : vs.length = s) (hv : ∀ j v, vs[j]? = some v → cs[off + j]? = some v) {dd : Nat} (hdst : o.dst = some dd) (hd : okD n (some dd) = true) (h : HX P n ds ops ev wk K r (k + 1) ((dd, (.agg vs.toArray)) :: e) (St w0 F0 L)) : HX1 P n ds ops ev wk K o r k e (St w0 F0 L) :=
  hx1_read (by rw [ho]; rfl) (by rw [ho]; rfl) hdst hd (fun a w ha hC => by
    obtain ⟨F, _, hb⟩ := hC.get hp
    have hc : ∀ j v, vs[j]? = some v → w.cell? ((⟨b, off, none⟩ : Addr).add j) = some v := fun j v hj => by
      have e1 : (⟨b, off, none⟩ : Addr).add j = ⟨b, off + j, none⟩ := by
        unfold Addr.add
        split
        · rename_i h0; rw [h0]; rfl
        · rfl
      rw [e1, blk_cell hb]
      exact hv j v hj
    simp [execOp, ho, ha.eval hx, run_loadN hu hna hs hl hc]) h
/-- A store. -/
theorem h_store {t b off s : Nat} {x y : Operand} {cs : Array Value} {bt : TypeId} {v : Value} {vs : List Value} (hev : ev k = true) (hwk : wk k = false) (ho : o.op = .store t x y) (hdst : o.dst = none) (hx : e.op x = some (.pointer (some ⟨b, off, none⟩))) (hy : e.op y = some v) (hs : SizeOf P t s)
    (hp : Pull L (Blk b (.cells cs bt (0, 0))) L') (hl : v.cells.toList = vs) (hls : vs.length = s) (hr : off + s ≤ cs.size) (h1 : ∀ u ∈ vs, u.oneCell' = true)
    (h : HX P n ds ops ev wk K r (k + 1) e (St w0 F0 (Blk b (.cells (setMany cs off vs) bt (0, 0)) :: L'))) : HX1 P n ds ops ev wk K o r k e (St w0 F0 L) :=
  hx1_event hev (fun a w ha hC => by
    have hC' := hC.perm hp.perm
    have hb := hC'.blk
    subst hl
    obtain ⟨w', hrun, hbut, hh⟩ := run_storeAt (P := P) (v := v) (off := off) hb hs (by simpa using hls) (by simpa using hr) h1
    unfold Oper.wp
    have : (execOp a.eval o).run P w = .ok .skip w' := by simp [execOp, ho, ha.eval hx, ha.eval hy, hrun]
    rw [this]
    refine ⟨_, e, hC'.put hbut hh, (fun h => by rw [hwk] at h; cases h), ?_, h⟩
    rw [hdst]
    exact ha)
/-- A new variable. -/
theorem h_box {t : Nat} {x : Operand} {v : Value} {cs : Array Value} (hev : ev k = true) (ho : o.op = .box t x) (hx : e.op x = some v) (hcs : v.cells = cs) {dd : Nat} (hdst : o.dst = some dd) (hd : okD n (some dd) = true)
    (h : ∀ b, HX P n ds ops ev wk K r (k + 1) ((dd, (.pointer (some ⟨b, 0, none⟩))) :: e) (St w0 F0 (Blk b (.cells cs t (0, 0)) :: L))) : HX1 P n ds ops ev wk K o r k e (St w0 F0 L) :=
  hx1_event hev (fun a w ha hC => by
    unfold Oper.wp
    have : (execOp a.eval o).run P w = .ok (.value (.pointer (some ⟨w.heap.size, 0, none⟩))) (w.alloc (.cells cs t (0, 0))) := by
      simp [execOp, ho, ha.eval hx, Instr.box, newVar, newRow, hcs]
    rw [this]
    exact ⟨_, _, hC.new _, fun _ _ hh => hh.drop, (by rw [hdst]; exact ha.put hd _), h _⟩)
theorem h_alloc {t : Nat} {v : Value} {cs : Array Value} (hev : ev k = true) (ho : o.op = .alloc t) (hz : ZeroOf P t v) (hcs : v.cells = cs) {dd : Nat} (hdst : o.dst = some dd) (hd : okD n (some dd) = true)
    (h : ∀ b, HX P n ds ops ev wk K r (k + 1) ((dd, (.pointer (some ⟨b, 0, none⟩))) :: e) (St w0 F0 (Blk b (.cells cs t (0, 0)) :: L))) : HX1 P n ds ops ev wk K o r k e (St w0 F0 L) :=
  hx1_event hev (fun a w ha hC => by
    unfold Oper.wp
    have : (execOp a.eval o).run P w = .ok (.value (.pointer (some ⟨w.heap.size, 0, none⟩))) (w.alloc (.cells cs t (0, 0))) := by
      simp [execOp, ho, Instr.alloc, run_zero hz, newVar, newRow, hcs]
    rw [this]
    exact ⟨_, _, hC.new _, fun _ _ hh => hh.drop, (by rw [hdst]; exact ha.put hd _), h _⟩)
/-- Called with args on the pieces pre, f returns: what, and on which pieces, post says. -/
def Spec (P : Program) (f : FuncId) (args : List Value) (pre : List Asn) (post : Value → List Asn → Prop) : Prop :=
  ∀ w F, Star w pre F → Calls P f args.toArray w (fun en w' => ∃ v M, en = .returned v ∧ post v M ∧ St w F M w')
abbrev Enters (P : Program) (f : FuncId) : Prop := ∀ args w, (callFunc f args).run P w = .ok (.enter f args) w
theorem Enters.mk {f : FuncId} {fn : Func} (h : P.funcs[f]? = some fn) (hn : (fn.name == "runtime.NumGoroutine") = false) (hb : fn.body.isSome = true) : Enters P f := fun args w => by
  have hb' : fn.body ≠ none := by intro e0; rw [e0] at hb; cases hb
  have hn' : fn.name ≠ "runtime.NumGoroutine" := by intro e0; rw [e0] at hn; simp at hn
  unfold callFunc
  simp [h, hb', hn']
theorem run_call {a : Act} {c : Call} {f : FuncId} {fo : Operand} {l2 : Array Value} {w : World} {vs : List Value} (he : Enters P f) (hc : c.callee = .value fo) (hf : a.eval fo = .func (.func f) #[] l2) (hvs : c.args.toList.map a.eval = vs) (ho : o.op = .call c) :
    (execOp a.eval o).run P w = .ok (.enter f (vs.toArray ++ l2)) w := by
  have e1 : c.args.map a.eval = vs.toArray := by
    rw [← hvs]
    exact Array.ext' (by simp)
  simp [execOp, ho, resolve, hc, hf, Deferred.ofValue, e1, invoke]
  exact he _ _
/-- A call, on some of the pieces. -/
theorem h_call {c : Call} {f : FuncId} {fo : Operand} {vs : List Value} {cap : Array Value} {pre rest : List Asn} {post : Value → List Asn → Prop} (hev : ev k = true) (hwk : wk k = false) (ho : o.op = .call c) (hc : c.callee = .value fo) (hf : e.op fo = some (.func (.func f) #[] cap)) (hvs : e.ops c.args.toList = some vs)
    {dd : Nat} (hdst : o.dst = some dd) (hd : okD n (some dd) = true) (he : Enters P f) (hpu : Pulls L pre rest) (hs : Spec P f (vs ++ cap.toList) pre post)
    (h : ∀ v M, post v M → HX P n ds ops ev wk K r (k + 1) ((dd, v) :: e) (St w0 F0 (M ++ rest))) : HX1 P n ds ops ev wk K o r k e (St w0 F0 L) :=
  hx1_event hev (fun a w ha hC => by
    have hC' : St w0 F0 (pre ++ rest) w := hC.perm hpu.perm
    unfold Oper.wp
    rw [run_call he hc (ha.eval hf) (ha.evals hvs) ho]
    obtain ⟨F, h1, h2, h3⟩ := hC'
    obtain ⟨F1, F2, s1, s2, s3, s4⟩ := h1.tight.split
    have hcall := hs w F1 s1
    have e1 : (vs ++ cap.toList).toArray = vs.toArray ++ cap := by simp
    rw [e1] at hcall
    refine hcall.mono ?_
    rintro en w' ⟨v, M, rfl, hp, hSt⟩
    refine ⟨St w0 F0 (M ++ rest), _, ?_, (fun h => by rw [hwk] at h; cases h), (by rw [hdst]; exact ha.put hd v), h v M hp⟩
    obtain ⟨G, g1, g2, g3⟩ := hSt
    have t2 := s2.tight
    refine ⟨fun b => G b ∨ (F2 b ∧ b < w.heap.size), g1.join (t2.loc fun b hb => g2.blk b hb.2 fun hb1 => s3 b hb1 hb.1) (fun b hb hc => ?_) (fun _ h => h), ⟨g2.os.trans h2.os, g2.tape.trans h2.tape, g2.output.trans h2.output, Nat.le_trans h2.size g2.size, fun k hk hn => ?_⟩, fun b hb => ?_⟩
    · rcases g3 b hb with h | h
      · exact s3 b h hc.1
      · exact absurd hc.2 (by omega)
    · refine (g2.blk k (Nat.lt_of_lt_of_le hk h2.size) fun hk1 => ?_).trans (h2.blk k hk hn)
      rcases h3 k (s4 k (.inl hk1)).1 with h | h
      · exact hn h
      · omega
    · rcases hb with hb | hb
      · rcases g3 b hb with h | h
        · exact h3 b (s4 b (.inl h)).1
        · exact .inr (Nat.le_trans h2.size h)
      · exact h3 b (s4 b (.inr hb.1)).1)
/-- Facts that hold of each value of a list, as a test. -/
def Spec0 (P : Program) (f : FuncId) (args : List Value) (v : Value) : Prop := Spec P f args [] (fun u M => u = v ∧ M = [])
/-- A call that only reads what there is: one value, whatever else it makes. -/
def Reads (P : Program) (f : FuncId) (args : List Value) (C : World → Prop) (v : Value) : Prop :=
  ∀ w, C w → Calls P f args.toArray w (fun en w' => en = .returned v ∧ But w w' (fun _ => False))
theorem Spec0.reads {f : FuncId} {args : List Value} {v : Value} (h : Spec0 P f args v) (C : World → Prop) : Reads P f args C v := fun w _ => (h w (fun _ => False) trivial).mono fun en w' ⟨u, M, h1, ⟨h2, h3⟩, F, _, hb, _⟩ => by
  subst h2
  exact ⟨h1, hb⟩
theorem h_callR {c : Call} {f : FuncId} {fo : Operand} {vs : List Value} {cap : Array Value} {v : Value} (ho : o.op = .call c) (hc : c.callee = .value fo) (hf : e.op fo = some (.func (.func f) #[] cap)) (hvs : e.ops c.args.toList = some vs)
    {dd : Nat} (hdst : o.dst = some dd) (hd : okD n (some dd) = true) (he : Enters P f) (hs : Reads P f (vs ++ cap.toList) (St w0 F0 L) v)
    (h : HX P n ds ops ev wk K r (k + 1) ((dd, v) :: e) (St w0 F0 L)) : HX1 P n ds ops ev wk K o r k e (St w0 F0 L) := ⟨fun a ha hw => by
  have hp : pureB o.op = false := by
    rw [ho]
    obtain ⟨callee, args, at_⟩ := c
    cases callee with
    | value f => rfl
    | invoke r m => cases hc
    | builtin b => cases hc
  have e1 : (vs ++ cap.toList).toArray = vs.toArray ++ cap := by simp
  have key : ∀ w, St w0 F0 L w → Calls P f (vs.toArray ++ cap) w (fun en w' => en = .returned v ∧ St w0 F0 L w') := fun w hC => by
    have := hs w hC
    rw [e1] at this
    exact this.mono fun en w' ⟨h1, h2⟩ => ⟨h1, hC.same h2⟩
  split
  · intro w hC
    unfold Oper.wp
    rw [run_call he hc (ha.eval hf) (ha.evals hvs) ho]
    refine (key w hC).mono ?_
    rintro en w' ⟨rfl, hC'⟩
    exact ⟨_, hC', fun _ _ h => h, h.out _ ((by rw [hdst]; exact ha.put hd v))⟩
  · refine ⟨v, ?_, h.out _ ((by rw [hdst]; exact ha.put hd v))⟩
    unfold YldK
    rw [if_neg (by simp [hp]), if_pos (by rw [ho]; rfl)]
    refine .inl ⟨hw, fun w hC => ?_⟩
    unfold Oper.quietAt
    rw [run_call he hc (ha.eval hf) (ha.evals hvs) ho]
    exact ⟨rfl, key w hC⟩⟩
end
end Go.Proofs.YtfolhmlldoepfaaGreatDoor
namespace Go.Proofs.YtfolhmlldoepfaaGreatDoor
open Go
section
variable {P : Program} {n : Nat} {ds : List Deferred} {Q : Exit → Act → World → Prop} {e : Env} {C : World → Prop} {w0 : World} {F0 : Nat → Prop} {L : List Asn}
structure HC (P : Program) (n : Nat) (ds : List Deferred) (c : Code) (Q : Exit → Act → World → Prop) (e : Env) (C : World → Prop) : Prop where
  out : ∀ a w, Has n ds a e → C w → c.wp P Q a w
structure HQ (n : Nat) (ds : List Deferred) (Q : Exit → Act → World → Prop) (x : Exit) (e : Env) (C : World → Prop) : Prop where
  out : ∀ a w, Has n ds a e → C w → Q x a w
theorem tx_conv {l : List Oper} {ev wk : Nat → Bool} : ∀ (l' : List Oper) (k : Nat) (a : Act) (C : World → Prop), TX P l.toArray ev wk (fun a' C' => ∃ e', Has n ds a' e' ∧ HQ n ds Q .normal e' C') l' k a C → TX P l.toArray ev wk (fun a' C' => ∀ w', C' w' → Q .normal a' w') l' k a C := by
  intro l'
  induction l' with
  | nil => intro k a C ⟨e', h1, h2⟩ w' hw'; exact h2.out a w' h1 hw'
  | cons o l' ih =>
    intro k a C h
    simp only [TX] at h ⊢
    split
    · rename_i hw
      rw [if_pos hw] at h
      split at h
      · rename_i hev
        rw [if_pos hev]
        exact fun w hC => Oper.wp_mono (fun a' w' ⟨C', h1, h2, h3⟩ => ⟨C', h1, h2, ih _ _ _ h3⟩) (h w hC)
      · rename_i hev
        rw [if_neg hev]
        obtain ⟨v, h1, h2⟩ := h
        exact ⟨v, h1, ih _ _ _ h2⟩
    · rename_i hw
      rw [if_neg hw] at h
      exact ih _ _ _ h
theorem hc_draw {id : Nat} {l : List Oper} {ev wk : Nat → Bool} (hm : P.follows .mixedOrders = true) (hB : chkB l.toArray ev wk = true)
    (h : HX P n ds l.toArray ev wk (fun e' C' => HQ n ds Q .normal e' C') l 0 e (St w0 F0 L)) : HC P n ds (Code.region id l.toArray true) Q e (St w0 F0 L) := ⟨fun a w ha hC => by
  refine wp_region_tx (ev := ev) (wk := wk) (C := St w0 F0 L) hm hB (hC.same (.drew w _ _)) ?_
  exact tx_conv _ _ _ _ (h.out a ha)⟩
theorem hc_lex {id : Nat} {l : List Oper}
    (h : HX P n ds l.toArray (fun _ => true) (fun _ => false) (fun e' C' => HQ n ds Q .normal e' C') l 0 e C) : HC P n ds (Code.region id l.toArray false) Q e C := ⟨fun a w ha hC => by
  refine wp_region_tx0 (ev := fun _ => true) (wk := fun _ => false) (C := C) hC ?_
  exact tx_conv _ _ _ _ (h.out a ha)⟩
/-- What is an event: what neither computes nor reads. -/
def readB : Op → Bool
  | .load .. => true
  | .lookup .. => true
  | _ => false
def evK (ops : Array Oper) (i : Nat) : Bool := match ops[i]? with
  | some o => !pureB o.op && !readB o.op
  | none => false
/-- .. calls are none. -/
def evQ (ops : Array Oper) (i : Nat) : Bool := match ops[i]? with
  | some o => !pureB o.op && !readB o.op && !callB o.op
  | none => false
def wkK (ops : Array Oper) (i : Nat) : Bool := match ops[i]? with
  | some o => match o.op with
    | .box .. => true
    | .alloc .. => true
    | .makeMap .. => true
    | _ => false
  | none => false
theorem hc_draw0 {id : Nat} {l : List Oper} (hm : P.follows .mixedOrders = true) (hB : chkB l.toArray (evK l.toArray) (wkK l.toArray) = true)
    (h : HX P n ds l.toArray (evK l.toArray) (wkK l.toArray) (fun e' C' => HQ n ds Q .normal e' C') l 0 e (St w0 F0 L)) : HC P n ds (Code.region id l.toArray true) Q e (St w0 F0 L) := hc_draw hm hB h
theorem hc_drawQ {id : Nat} {l : List Oper} (hm : P.follows .mixedOrders = true) (hB : chkB l.toArray (evQ l.toArray) (wkK l.toArray) = true)
    (h : HX P n ds l.toArray (evQ l.toArray) (wkK l.toArray) (fun e' C' => HQ n ds Q .normal e' C') l 0 e (St w0 F0 L)) : HC P n ds (Code.region id l.toArray true) Q e (St w0 F0 L) := hc_draw hm hB h
theorem hc_seq {x y : Code} (h : HC P n ds x (Exit.then (y.wp P Q) Q) e C) : HC P n ds (Code.seq x y) Q e C := ⟨fun a w ha hC => wp_seq (h.out a w ha hC)⟩
theorem hq_then {y : Code} (h : HC P n ds y Q e C) : HQ n ds (Exit.then (y.wp P Q) Q) .normal e C := ⟨h.out⟩
theorem hq_ret_then {K : Act → World → Prop} (h : HQ n ds Q .ret e C) : HQ n ds (Exit.then K Q) .ret e C := ⟨h.out⟩
theorem hq_exit_then {K : Act → World → Prop} {i : Nat} (h : HQ n ds Q (.exit i) e C) : HQ n ds (Exit.then K Q) (.exit i) e C := ⟨h.out⟩
theorem hq_ret_block {id : Nat} (h : HQ n ds Q .ret e C) : HQ n ds (Exit.inBlock id Q) .ret e C := ⟨h.out⟩
theorem hq_norm_block {id : Nat} (h : HQ n ds Q .normal e C) : HQ n ds (Exit.inBlock id Q) .normal e C := ⟨h.out⟩
theorem hq_exit_block {id : Nat} (h : HQ n ds Q .normal e C) : HQ n ds (Exit.inBlock id Q) (.exit id) e C := ⟨fun a w ha hC => by
  show (if id = id then _ else _)
  rw [if_pos rfl]
  exact h.out a w ha hC⟩
theorem hc_block {id : Nat} {c : Code} (h : HC P n ds c (Exit.inBlock id Q) e C) : HC P n ds (Code.block id c) Q e C := ⟨fun a w ha hC => wp_block (h.out a w ha hC)⟩
theorem hc_skip (h : HQ n ds Q .normal e C) : HC P n ds Code.skip Q e C := ⟨fun a w ha hC => wp_skip (h.out a w ha hC)⟩
theorem hc_ret (h : HQ n ds Q .ret e C) : HC P n ds Code.ret Q e C := ⟨fun a w ha hC => wp_ret (h.out a w ha hC)⟩
theorem hc_exit {id : Nat} (h : HQ n ds Q (.exit id) e C) : HC P n ds (Code.exit id) Q e C := ⟨fun a w ha hC => wp_exit (h.out a w ha hC)⟩
theorem hc_condT {c : Operand} {x y : Code} (hc : e.op c = some (.bool true)) (h : HC P n ds x Q e C) : HC P n ds (Code.cond c x y) Q e C := ⟨fun a w ha hC => wp_cond_true (ha.eval hc) (h.out a w ha hC)⟩
theorem hc_condF {c : Operand} {x y : Code} (hc : e.op c = some (.bool false)) (h : HC P n ds y Q e C) : HC P n ds (Code.cond c x y) Q e C := ⟨fun a w ha hC => wp_cond_false (ha.eval hc) (h.out a w ha hC)⟩
theorem hc_cond {c : Operand} {x y : Code} {b : Bool} (hc : e.op c = some (.bool b)) (h1 : b = true → HC P n ds x Q e C) (h2 : b = false → HC P n ds y Q e C) : HC P n ds (Code.cond c x y) Q e C := ⟨fun a w ha hC => by
  cases b with
  | true => exact wp_cond_true (ha.eval hc) ((h1 rfl).out a w ha hC)
  | false => exact wp_cond_false (ha.eval hc) ((h2 rfl).out a w ha hC)⟩
theorem hc_condD {c : Operand} {x y : Code} {p : Prop} [Decidable p] (hc : e.op c = some (.bool (decide p))) (h1 : p → HC P n ds x Q e C) (h2 : ¬ p → HC P n ds y Q e C) : HC P n ds (Code.cond c x y) Q e C :=
  hc_cond hc (fun h => h1 (of_decide_eq_true h)) (fun h => h2 (of_decide_eq_false h))
theorem hc_condDT {c : Operand} {x y : Code} {p : Prop} [Decidable p] (hc : e.op c = some (.bool (decide p))) (hp : p) (h1 : HC P n ds x Q e C) : HC P n ds (Code.cond c x y) Q e C :=
  hc_condD hc (fun _ => h1) (fun h => absurd hp h)
theorem hc_condDF {c : Operand} {x y : Code} {p : Prop} [Decidable p] (hc : e.op c = some (.bool (decide p))) (hp : ¬ p) (h2 : HC P n ds y Q e C) : HC P n ds (Code.cond c x y) Q e C :=
  hc_condD hc (fun h => absurd h hp) (fun _ => h2)
theorem hc_st {c : Code} {C' : World → Prop} (hc : ∀ w, C w → C' w) (h : HC P n ds c Q e C') : HC P n ds c Q e C := ⟨fun a w ha hC => h.out a w ha (hc w hC)⟩
theorem hq_st {x : Exit} {C' : World → Prop} (hc : ∀ w, C w → C' w) (h : HQ n ds Q x e C') : HQ n ds Q x e C := ⟨fun a w ha hC => h.out a w ha (hc w hC)⟩
theorem mHC {c : Code} (h : HC P n ds c Q e C) : HC P n ds c Q e C := h
theorem mHQ {x : Exit} (h : HQ n ds Q x e C) : HQ n ds Q x e C := h
/-- Pieces are opened. -/
theorem hc_open {c : Code} {A : Asn} {L' : List Asn} {X : Type} {M : X → List Asn} (hp : Pull L A L') (ho : ∀ w w0 F0 R, St w0 F0 (A :: R) w → ∃ x, St w0 F0 (M x ++ R) w) (h : ∀ x, HC P n ds c Q e (St w0 F0 (M x ++ L'))) : HC P n ds c Q e (St w0 F0 L) := ⟨fun a w ha hC => by
  obtain ⟨x, hx⟩ := ho w w0 F0 L' (hC.perm hp.perm)
  exact (h x).out a w ha hx⟩
/-- What memory tells. -/
theorem hc_know {c : Code} {φ : Prop} (hk : ∀ w, C w → φ) (h : φ → HC P n ds c Q e C) : HC P n ds c Q e C := ⟨fun a w ha hC => (h (hk w hC)).out a w ha hC⟩
/-- A round has come to its end. -/
def RoundTo {X : Type} (n : Nat) (ds : List Deferred) (w0 : World) (F0 : Nat → Prop) (en : X → Env) (M : X → List Asn) (φ : X → Prop) (μ : X → Nat) (x : X) : Act → World → Prop := fun a' w' => ∃ y, μ y < μ x ∧ φ y ∧ Has n ds a' (en y) ∧ St w0 F0 (M y) w'
/-- A loop, its rounds counted by μ. -/
theorem hc_loop {c : Code} {X : Type} (en : X → Env) (M : X → List Asn) (φ : X → Prop) (μ : X → Nat) (x0 : X) (hk : Keep e (en x0)) (hφ : φ x0) (hst : ∀ w, St w0 F0 L w → St w0 F0 (M x0) w)
    (round : ∀ x, φ x → HC P n ds c (Exit.then (RoundTo n ds w0 F0 en M φ μ x) Q) (en x) (St w0 F0 (M x))) : HC P n ds (Code.loop c) Q e (St w0 F0 L) := ⟨fun a w ha hC => by
  refine wp_loop_ghost (fun m a w => ∃ x, μ x = m ∧ φ x ∧ Has n ds a (en x) ∧ St w0 F0 (M x) w) (μ x0) ⟨x0, rfl, hφ, ha.sub hk.get, hst w hC⟩ ?_
  rintro m a w ⟨x, rfl, hφ, ha, hC⟩
  refine wp_mono ((round x hφ).out a w ha hC) ?_
  intro ex a' w' hq
  cases ex with
  | normal =>
    obtain ⟨y, h1, h2, h3, h4⟩ := hq
    exact ⟨μ y, h1, y, rfl, h2, h3, h4⟩
  | _ => exact hq⟩
theorem hq_round {X : Type} {en : X → Env} {M : X → List Asn} {φ : X → Prop} {μ : X → Nat} {x : X} (y : X) (hμ : μ y < μ x) (hφ : φ y) (hk : Keep e (en y)) (hst : ∀ w, St w0 F0 L w → St w0 F0 (M y) w) :
    HQ n ds (Exit.then (RoundTo n ds w0 F0 en M φ μ x) Q) .normal e (St w0 F0 L) := ⟨fun _ w ha hC => ⟨y, hμ, hφ, ha.sub hk.get, hst w hC⟩⟩
/-- Where the exit 'id' is taken, the frame and the pieces are told by some y. -/
def QX {Y : Type} (n : Nat) (ds : List Deferred) (w0 : World) (F0 : Nat → Prop) (id : Nat) (en : Y → Env) (M : Y → List Asn) (ψ : Y → Prop) (Q : Exit → Act → World → Prop) : Exit → Act → World → Prop
  | .exit j, a, w => if j = id then ∃ y, ψ y ∧ Has n ds a (en y) ∧ St w0 F0 (M y) w else Q (.exit j) a w
  | ex, a, w => Q ex a w
theorem hq_cut {Y : Type} {id : Nat} {en : Y → Env} {M : Y → List Asn} {ψ : Y → Prop} (y : Y) (hψ : ψ y) (hk : Keep e (en y)) (hst : ∀ w, St w0 F0 L w → St w0 F0 (M y) w) : HQ n ds (QX n ds w0 F0 id en M ψ Q) (.exit id) e (St w0 F0 L) := ⟨fun a w ha hC => by
  show (if id = id then _ else _)
  rw [if_pos rfl]
  exact ⟨y, hψ, ha.sub hk.get, hst w hC⟩⟩
theorem hq_cut_ret {Y : Type} {id : Nat} {en : Y → Env} {M : Y → List Asn} {ψ : Y → Prop} (h : HQ n ds Q .ret e C) : HQ n ds (QX n ds w0 F0 id en M ψ Q) .ret e C := ⟨h.out⟩
theorem hc_cut {Y : Type} {c : Code} {id : Nat} (en : Y → Env) (M : Y → List Asn) (ψ : Y → Prop) (h : HC P n ds c (QX n ds w0 F0 id en M ψ Q) e (St w0 F0 L)) (rest : ∀ y, ψ y → HQ n ds Q (.exit id) (en y) (St w0 F0 (M y))) : HC P n ds c Q e (St w0 F0 L) := ⟨fun a w ha hC => by
  refine wp_mono (h.out a w ha hC) ?_
  intro ex a' w' hq
  cases ex with
  | exit j =>
    by_cases hj : j = id
    · subst hj
      have hq' : (if j = j then ∃ y, ψ y ∧ Has n ds a' (en y) ∧ St w0 F0 (M y) w' else Q (.exit j) a' w') := hq
      rw [if_pos rfl] at hq'
      obtain ⟨y, h1, h2, h3⟩ := hq'
      exact (rest y h1).out a' w' h2 h3
    · have hq' : (if j = id then ∃ y, ψ y ∧ Has n ds a' (en y) ∧ St w0 F0 (M y) w' else Q (.exit j) a' w') := hq
      rwa [if_neg hj] at hq'
  | _ => exact hq⟩
def MeetTo {Y : Type} (n : Nat) (ds : List Deferred) (w0 : World) (F0 : Nat → Prop) (en : Y → Env) (M : Y → List Asn) (ψ : Y → Prop) : Act → World → Prop := fun a w => ∃ y, ψ y ∧ Has n ds a (en y) ∧ St w0 F0 (M y) w
/-- Two ways through x meet ahead of z. -/
theorem hc_meet {Y : Type} {x z : Code} (en : Y → Env) (M : Y → List Asn) (ψ : Y → Prop) (h : HC P n ds x (Exit.then (MeetTo n ds w0 F0 en M ψ) Q) e (St w0 F0 L)) (rest : ∀ y, ψ y → HC P n ds z Q (en y) (St w0 F0 (M y))) : HC P n ds (Code.seq x z) Q e (St w0 F0 L) :=
  hc_seq ⟨fun a w ha hC => wp_mono (h.out a w ha hC) fun ex a' w' hq => by
    cases ex with
    | normal =>
      obtain ⟨y, h1, h2, h3⟩ := hq
      exact (rest y h1).out a' w' h2 h3
    | _ => exact hq⟩
theorem hq_met {Y : Type} {en : Y → Env} {M : Y → List Asn} {ψ : Y → Prop} (y : Y) (hψ : ψ y) (hk : Keep e (en y)) (hst : ∀ w, St w0 F0 L w → St w0 F0 (M y) w) : HQ n ds (Exit.then (MeetTo n ds w0 F0 en M ψ) Q) .normal e (St w0 F0 L) := ⟨fun _ w ha hC => ⟨y, hψ, ha.sub hk.get, hst w hC⟩⟩
def envOf : Nat → List Value → Env
  | _, [] => []
  | k, v :: l => (k, v) :: envOf (k + 1) l
theorem envOf_get : ∀ (l : List Value) (i k : Nat) (v : Value), (envOf i l).get k = some v → i ≤ k ∧ l[k - i]? = some v
  | [], _, _, _, h => by cases h
  | u :: l, i, k, v, h => by
    simp only [envOf, Env.get_cons] at h
    split at h
    · rename_i e0; subst e0; cases h; simp
    · rename_i hne
      obtain ⟨h1, h2⟩ := envOf_get l (i + 1) k v h
      refine ⟨by omega, ?_⟩
      rw [show k - i = (k - (i + 1)) + 1 by omega]
      simpa using h2
def bodyR (w : World) (F : Nat → Prop) (post : Value → List Asn → Prop) : Ending → World → Prop := fun en w' => ∃ v M, en = .returned v ∧ post v M ∧ St w F M w'
theorem spec_at {f : FuncId} {fn : Func} {c : Code} {args : List Value} {pre : List Asn} {post : Value → List Asn → Prop} {w : World} {F : Nat → Prop} (hf : P.funcs[f]? = some fn) (hb : fn.body = some c) (hn : fn.ntmps = n) (hlen : args.length ≤ n) (hs : Star w pre F)
    (h : HC P n [] c (bodyPost P fn (bodyR w F post)) (envOf 0 args) (St w F pre)) : Calls P f args.toArray w (bodyR w F post) := by
  refine calls_of_wp hf hb (h.out _ _ ⟨?_, rfl, fun k v hk => ?_⟩ (.start hs))
  · simp [hn]; omega
  · obtain ⟨_, h2⟩ := envOf_get _ _ _ _ hk
    have hlt : k - 0 < args.length := by
      rcases Nat.lt_or_ge (k - 0) args.length with h | h
      · exact h
      · simp only [Nat.sub_zero] at h h2; rw [List.getElem?_eq_none h] at h2; cases h2
    have hlt' : k < args.length := by omega
    rw [Nat.sub_zero] at h2
    rw [Array.getElem?_append_left (by simpa using hlt')]
    simpa using h2
theorem spec_of {f : FuncId} {fn : Func} {c : Code} {args : List Value} {pre : List Asn} {post : Value → List Asn → Prop} (hf : P.funcs[f]? = some fn) (hb : fn.body = some c) (hn : fn.ntmps = n) (hlen : args.length ≤ n)
    (h : ∀ w F, HC P n [] c (bodyPost P fn (bodyR w F post)) (envOf 0 args) (St w F pre)) : Spec P f args pre post := fun w F hs => spec_at hf hb hn hlen hs (h w F)
theorem hq_ret0 {fn : Func} {x : Exit} {post : Value → List Asn → Prop} {M : List Asn} (hx : x = .normal ∨ x = .ret) (hr : fn.results = #[]) (hp : post (.tuple #[]) M) (hst : ∀ w, St w0 F0 L w → St w0 F0 M w) :
    HQ n [] (bodyPost P fn (bodyR w0 F0 post)) x e (St w0 F0 L) := ⟨fun a w ha hC => by
  have hrun : (results fn a.tmps).run P w = .ok (.tuple #[]) w := by simp [results, hr]
  have : bodyR w0 F0 post (.returned (.tuple #[])) w := ⟨_, M, rfl, hp, hst w hC⟩
  rcases hx with rfl | rfl
  · exact ⟨ha.defers, _, hrun, this⟩
  · exact ⟨ha.defers, _, hrun, this⟩⟩
theorem hq_ret1 {fn : Func} {x : Exit} {t : Nat} {v : Value} {post : Value → List Asn → Prop} {M : List Asn} (hx : x = .normal ∨ x = .ret) (hr : fn.results = #[.tmp t]) (hv : e.get t = some v) (hp : post v M) (hst : ∀ w, St w0 F0 L w → St w0 F0 M w) :
    HQ n [] (bodyPost P fn (bodyR w0 F0 post)) x e (St w0 F0 L) := ⟨fun a w ha hC => by
  have hrun : (results fn a.tmps).run P w = .ok v w := by simp [results, hr, ha.get _ _ hv]
  have : bodyR w0 F0 post (.returned v) w := ⟨_, M, rfl, hp, hst w hC⟩
  rcases hx with rfl | rfl
  · exact ⟨ha.defers, _, hrun, this⟩
  · exact ⟨ha.defers, _, hrun, this⟩⟩
theorem hq_ret2 {fn : Func} {x : Exit} {t t2 : Nat} {v v2 : Value} {post : Value → List Asn → Prop} {M : List Asn} (hx : x = .normal ∨ x = .ret) (hr : fn.results = #[.tmp t, .tmp t2]) (hv : e.get t = some v) (hv2 : e.get t2 = some v2) (hp : post (.tuple #[v, v2]) M) (hst : ∀ w, St w0 F0 L w → St w0 F0 M w) :
    HQ n [] (bodyPost P fn (bodyR w0 F0 post)) x e (St w0 F0 L) := ⟨fun a w ha hC => by
  have hrun : (results fn a.tmps).run P w = .ok (.tuple #[v, v2]) w := by simp [results, hr, ha.get _ _ hv, ha.get _ _ hv2]
  have : bodyR w0 F0 post (.returned (.tuple #[v, v2])) w := ⟨_, M, rfl, hp, hst w hC⟩
  rcases hx with rfl | rfl
  · exact ⟨ha.defers, _, hrun, this⟩
  · exact ⟨ha.defers, _, hrun, this⟩⟩
end
end Go.Proofs.YtfolhmlldoepfaaGreatDoor
namespace Go.Proofs.YtfolhmlldoepfaaGreatDoor
open Go
/-- How an element lies in memory. -/
structure Elem (X : Type) where
  sz : Nat
  pos : 0 < sz
  enc : X → List Value
  len : ∀ x, (enc x).length = sz
  one : ∀ x, ∀ v ∈ enc x, v.oneCell' = true
variable {X : Type}
/-- Block g is an array with room for cap elements, of which the first are xs. -/
def Row (E : Elem X) (T g cap : Nat) (xs : List X) : Asn where
  p w F := (∀ x, F x ↔ x = g) ∧ ∃ cur, w.heap[g]? = some (.cells cur T (0, 0)) ∧ xs.length ≤ cap ∧ cap ≤ maxLen ∧ cur.size = cap * E.sz ∧ ∀ i x, xs[i]? = some x → ∀ j v, (E.enc x)[j]? = some v → cur[i * E.sz + j]? = some v
  lt := fun ⟨h1, _, h2, _⟩ x hx => by rw [(h1 x).1 hx]; exact (Array.getElem?_eq_some_iff.1 h2).1
  loc := fun ⟨h1, cur, h2, r⟩ h => ⟨h1, cur, (h g ((h1 g).2 rfl)).trans h2, r⟩
/-- A slice value, nil or an array of its own, that holds just xs. -/
def RowV (E : Elem X) (T : Nat) (v : Value) (xs : List X) : Asn where
  p w F := (v = .slice none 0 0 ∧ xs = [] ∧ ∀ b, ¬ F b) ∨ ∃ g cap, v = .slice (some ⟨g, 0, none⟩) xs.length cap ∧ (Row E T g cap xs).p w F
  lt := fun h b hb => by
    rcases h with ⟨_, _, h⟩ | ⟨g, cap, _, h⟩
    · exact (h b hb).elim
    · exact (Row E T g cap _).lt h b hb
  loc := fun h hh => by
    rcases h with h | ⟨g, cap, h1, h⟩
    · exact .inl h
    · exact .inr ⟨g, cap, h1, (Row E T g cap _).loc h hh⟩
section
variable {w0 : World} {F0 : Nat → Prop} {L : List Asn} {w : World} {E : Elem X} {T : Nat} {xs : List X}
theorem Star.rowV {v : Value} {F : Nat → Prop} : Star w (RowV E T v xs :: L) F ↔ (v = .slice none 0 0 ∧ xs = [] ∧ Star w L F) ∨ ∃ g cap, v = .slice (some ⟨g, 0, none⟩) xs.length cap ∧ Star w (Row E T g cap xs :: L) F := by
  constructor
  · rintro ⟨F1, F2, (⟨h1, h2, h3⟩ | ⟨g, cap, h1, h2⟩), r, s3, s4⟩
    · exact .inl ⟨h1, h2, r.mono fun b hb => s4 b (.inr hb)⟩
    · exact .inr ⟨g, cap, h1, F1, F2, h2, r, s3, s4⟩
  · rintro (⟨h1, h2, h3⟩ | ⟨g, cap, h1, F1, F2, h2, r, s3, s4⟩)
    · exact ⟨fun _ => False, F, .inl ⟨h1, h2, fun _ h => h⟩, h3, fun _ h => h.elim, fun _ h => h.elim False.elim id⟩
    · exact ⟨F1, F2, .inr ⟨g, cap, h1, h2⟩, r, s3, s4⟩
theorem St.rowV {v : Value} : St w0 F0 (RowV E T v xs :: L) w ↔ (v = .slice none 0 0 ∧ xs = [] ∧ St w0 F0 L w) ∨ ∃ g cap, v = .slice (some ⟨g, 0, none⟩) xs.length cap ∧ St w0 F0 (Row E T g cap xs :: L) w := by
  constructor
  · rintro ⟨F, h, r⟩
    rcases Star.rowV.1 h with ⟨h1, h2, h3⟩ | ⟨g, cap, h1, h2⟩
    · exact .inl ⟨h1, h2, F, h3, r⟩
    · exact .inr ⟨g, cap, h1, F, h2, r⟩
  · rintro (⟨h1, h2, F, h3, r⟩ | ⟨g, cap, h1, F, h2, r⟩)
    · exact ⟨F, Star.rowV.2 (.inl ⟨h1, h2, h3⟩), r⟩
    · exact ⟨F, Star.rowV.2 (.inr ⟨g, cap, h1, h2⟩), r⟩
theorem St.rowV_nil (h : St w0 F0 L w) : St w0 F0 (RowV E T (.slice none 0 0) [] :: L) w := St.rowV.2 (.inl ⟨rfl, rfl, h⟩)
theorem St.rowV_mk {g cap : Nat} (h : St w0 F0 (Row E T g cap xs :: L) w) : St w0 F0 (RowV E T (.slice (some ⟨g, 0, none⟩) xs.length cap) xs :: L) w := St.rowV.2 (.inr ⟨g, cap, rfl, h⟩)
theorem St.row_le {g cap : Nat} (h : St w0 F0 (Row E T g cap xs :: L) w) : xs.length ≤ cap ∧ cap ≤ maxLen :=
  let ⟨_, ⟨_, _, ⟨_, _, _, h1, h2, _⟩, _⟩, _⟩ := h; ⟨h1, h2⟩
end
theorem row_lt {sz cap i j : Nat} (hi : i < cap) (hj : j < sz) : i * sz + j < cap * sz := by
  have : i * sz + sz ≤ cap * sz := by rw [← Nat.succ_mul]; exact Nat.mul_le_mul_right _ hi
  omega
theorem row_inj {sz i j i' j' : Nat} (hj : j < sz) (hj' : j' < sz) (h : i * sz + j = i' * sz + j') : i = i' ∧ j = j' := by
  have key : ∀ a b c d : Nat, c < sz → d < sz → a * sz + c = b * sz + d → a ≤ b := by
    intro a b c d hc hd he
    rcases Nat.lt_or_ge b a with hlt | hge
    · have : b * sz + sz ≤ a * sz := by rw [← Nat.succ_mul]; exact Nat.mul_le_mul_right _ hlt
      omega
    · exact hge
  have e : i = i' := Nat.le_antisymm (key _ _ _ _ hj hj' h) (key _ _ _ _ hj' hj h.symm)
  subst e
  exact ⟨rfl, by omega⟩
section
variable {P : Program} {n : Nat} {ds : List Deferred} {ops : Array Oper} {ev wk : Nat → Bool} {K : Env → (World → Prop) → Prop} {r : List Oper} {o : Oper} {k : Nat} {e : Env} {w0 : World} {F0 : Nat → Prop} {L L' : List Asn} {E : Elem X} {T g cap : Nat} {xs : List X}
/-- The place of an element of a slice that begins with its array. -/
theorem h_rowAddr {t el b len sz : Nat} {cp : Nat} {x y : Operand} {kk : IntKind} {i : Int} (ho : o.op = .indexAddr t x y) (hx : e.op x = some (.slice (some ⟨b, 0, none⟩) len cp)) (hy : e.op y = some (.int kk i)) (hu : P.underlying t = some (.slice el)) (hs : SizeOf P el sz)
    (h0 : 0 ≤ i) (h1 : i < len) {dd : Nat} (hdst : o.dst = some dd) (hd : okD n (some dd) = true) (h : HX P n ds ops ev wk K r (k + 1) ((dd, .pointer (some ⟨b, i.toNat * sz, none⟩)) :: e) (St w0 F0 L)) : HX1 P n ds ops ev wk K o r k e (St w0 F0 L) :=
  h_indexAddr ho hx hy hu hs h0 h1 hdst hd (by rw [Nat.zero_add]; exact h)
theorem h_rowLoad {t i j : Nat} {x : Operand} {d : TypeDesc} {y : X} {v : Value} (ho : o.op = .load t x) (hp : Pull L (Row E T g cap xs) L') (hx : e.op x = some (.pointer (some ⟨g, i * E.sz + j, none⟩))) (hu : P.underlying t = some d) (hna : aggD d = false)
    (hi : xs[i]? = some y) (hv : nth (E.enc y) j = some v) {dd : Nat} (hdst : o.dst = some dd) (hd : okD n (some dd) = true) (h : HX P n ds ops ev wk K r (k + 1) ((dd, v) :: e) (St w0 F0 L)) : HX1 P n ds ops ev wk K o r k e (St w0 F0 L) :=
  hx1_read (by rw [ho]; rfl) (by rw [ho]; rfl) hdst hd (fun a w ha hC => by
    obtain ⟨F, _, cur, hb, _, _, _, hc⟩ := hC.get hp
    simp [execOp, ho, ha.eval hx, run_load1 hu hna ((blk_cell hb _).trans (hc i y hi j v (by rw [← nth_eq]; exact hv)))]) h
theorem h_rowLoadN {t i : Nat} {x : Operand} {d : TypeDesc} {y : X} {cs : Array Value} (ho : o.op = .load t x) (hp : Pull L (Row E T g cap xs) L') (hx : e.op x = some (.pointer (some ⟨g, i * E.sz, none⟩))) (hu : P.underlying t = some d) (hna : aggD d = true) (hs : SizeOf P t E.sz)
    (hi : xs[i]? = some y) (hcs : (E.enc y).toArray = cs) {dd : Nat} (hdst : o.dst = some dd) (hd : okD n (some dd) = true) (h : HX P n ds ops ev wk K r (k + 1) ((dd, .agg cs) :: e) (St w0 F0 L)) : HX1 P n ds ops ev wk K o r k e (St w0 F0 L) :=
  hx1_read (by rw [ho]; rfl) (by rw [ho]; rfl) hdst hd (fun a w ha hC => by
    obtain ⟨F, _, cur, hb, _, _, _, hcell⟩ := hC.get hp
    have hc : ∀ j v, (E.enc y)[j]? = some v → w.cell? ((⟨g, i * E.sz, none⟩ : Addr).add j) = some v := fun j v hj => by
      have e1 : (⟨g, i * E.sz, none⟩ : Addr).add j = ⟨g, i * E.sz + j, none⟩ := by
        unfold Addr.add
        split
        · rename_i h0; rw [h0]; rfl
        · rfl
      rw [e1, blk_cell hb]
      exact hcell i y hi j v hj
    subst hcs
    simp [execOp, ho, ha.eval hx, run_loadN hu hna hs (E.len y) hc]) h
theorem Row.put {w w' : World} {F : Nat → Prop} {i s off : Nat} {cur : Array Value} {vs : List Value} {y z : X} (h : (Row E T g cap xs).p w F) (hb : w.heap[g]? = some (.cells cur T (0, 0))) (hh : w'.heap[g]? = some (.cells (setMany cur (i * E.sz + off) vs) T (0, 0)))
    (hi : xs[i]? = some y) (hs : vs.length = s) (ho : off + s ≤ E.sz) (hz : E.enc z = (E.enc y).take off ++ vs ++ (E.enc y).drop (off + s)) : (Row E T g cap (xs.set i z)).p w' F := by
  obtain ⟨h1, cur', h2, h3, h4, h5, h6⟩ := h
  rw [hb] at h2
  cases h2
  have hil : i < xs.length := (List.getElem?_eq_some_iff.1 hi).1
  have hic : i < cap := by omega
  have hpos := E.pos
  have hfit : i * E.sz + off + vs.length ≤ cur.size := by
    rw [h5]
    have : i * E.sz + E.sz ≤ cap * E.sz := by rw [← Nat.succ_mul]; exact Nat.mul_le_mul_right _ hic
    omega
  refine ⟨h1, _, hh, by simpa using h3, h4, by rw [setMany_size, h5], fun i' x' hx' j v hj => ?_⟩
  rw [setMany_get _ _ _ _ hfit]
  have hjs : j < E.sz := by
    have := (List.getElem?_eq_some_iff.1 hj).1
    rwa [E.len] at this
  by_cases hii : i' = i
  · subst hii
    rw [List.getElem?_set_self hil] at hx'
    cases hx'
    rw [hz] at hj
    have hly := E.len y
    by_cases hr : off ≤ j ∧ j < off + s
    · rw [if_pos (by omega), show i' * E.sz + j - (i' * E.sz + off) = j - off by omega]
      rw [List.append_assoc, List.getElem?_append_right (by simp; omega)] at hj
      rw [List.getElem?_append_left (by simp [hly]; omega)] at hj
      simpa [hly, Nat.min_eq_left (by omega : off ≤ E.sz)] using hj
    · rw [if_neg (by omega)]
      refine h6 i' y hi j v ?_
      by_cases hlo : j < off
      · rw [List.append_assoc, List.getElem?_append_left (by simp [hly]; omega)] at hj
        rwa [List.getElem?_take, if_pos hlo] at hj
      · rw [List.getElem?_append_right (by simp [hly]; omega)] at hj
        rw [List.getElem?_drop] at hj
        rw [← hj]
        congr 1
        simp [hly]
        omega
  · rw [if_neg (fun hr => hii (row_inj (sz := E.sz) (i := i') (j := j) (i' := i) (j' := i * E.sz + off + (i' * E.sz + j - (i * E.sz + off)) - i * E.sz) hjs (by omega) (by omega)).1)]
    rw [List.getElem?_set_ne (Ne.symm hii)] at hx'
    exact h6 i' x' hx' j v hj
/-- A store into an element: 's' cells from the place 'off' in it on. -/
theorem h_rowStore {t i off s : Nat} {x y : Operand} {v : Value} {vs : List Value} {q z : X} (hev : ev k = true) (hwk : wk k = false) (ho : o.op = .store t x y) (hp : Pull L (Row E T g cap xs) L') (hdst : o.dst = none) (hx : e.op x = some (.pointer (some ⟨g, i * E.sz + off, none⟩))) (hy : e.op y = some v) (hs : SizeOf P t s)
    (hi : xs[i]? = some q) (hl : v.cells.toList = vs) (hls : vs.length = s) (hfit : off + s ≤ E.sz) (hz : E.enc z = (E.enc q).take off ++ vs ++ (E.enc q).drop (off + s))
    (h : HX P n ds ops ev wk K r (k + 1) e (St w0 F0 (Row E T g cap (xs.set i z) :: L'))) : HX1 P n ds ops ev wk K o r k e (St w0 F0 L) :=
  hx1_event hev (fun a w ha hC => by
    have hC' := hC.perm hp.perm
    obtain ⟨F, ⟨F1, F2, hrow, r2, s3, s4⟩, rr⟩ := hC'
    obtain ⟨h1, cur, hb, h3, h4, h5, h6⟩ := id hrow
    subst hl
    have hil : i < xs.length := (List.getElem?_eq_some_iff.1 hi).1
    have hfit2 : i * E.sz + off + s ≤ cur.size := by
      rw [h5]
      have : i * E.sz + E.sz ≤ cap * E.sz := by rw [← Nat.succ_mul]; exact Nat.mul_le_mul_right _ (by omega)
      omega
    have h1c : ∀ u ∈ v.cells.toList, u.oneCell' = true := fun u hu => E.one z u (by rw [hz]; simp [hu])
    obtain ⟨w', hrun, hbut, hh⟩ := run_storeAt (P := P) (v := v) (off := i * E.sz + off) hb hs (by simpa using hls) hfit2 h1c
    unfold Oper.wp
    have : (execOp a.eval o).run P w = .ok .skip w' := by simp [execOp, ho, ha.eval hx, ha.eval hy, hrun]
    rw [this]
    have hC2 : St w0 F0 (Row E T g cap (xs.set i z) :: L') w' := by
      have := St.call (pre := [Row E T g cap xs]) (post := [Row E T g cap (xs.set i z)]) (rest := L') (w' := w') (w := w) ⟨F, ⟨F1, F2, hrow, r2, s3, s4⟩, rr⟩ (fun G hG => by
        obtain ⟨G1, G2, g1, _, _, g4⟩ := hG
        have hg1 := g1.1
        refine ⟨fun x => x = g, ⟨fun x => x = g, fun _ => False, ?_, trivial, fun _ _ h => h, fun _ h => h.elim id False.elim⟩, ⟨hbut.os, hbut.tape, hbut.output, hbut.size, fun j hj hn => hbut.blk j hj fun e => hn (g4 j (.inl ((hg1 j).2 e)))⟩, fun x hx => .inl (g4 x (.inl ((hg1 x).2 hx)))⟩
        exact Row.put (F := fun x => x = g) (s := s) ⟨fun _ => Iff.rfl, cur, hb, h3, h4, h5, h6⟩ hb hh hi hls hfit hz)
      simpa using this
    refine ⟨_, e, hC2, (fun h => by rw [hwk] at h; cases h), ?_, h⟩
    rw [hdst]
    exact ha)
/-- A whole element is written. -/
theorem h_rowStoreN {t i : Nat} {x y : Operand} {v : Value} {vs : List Value} {q : X} (z : X) (hev : ev k = true) (hwk : wk k = false) (ho : o.op = .store t x y) (hp : Pull L (Row E T g cap xs) L') (hdst : o.dst = none) (hx : e.op x = some (.pointer (some ⟨g, i * E.sz, none⟩))) (hy : e.op y = some v) (hs : SizeOf P t E.sz)
    (hi : xs[i]? = some q) (hl : v.cells.toList = vs) (hz : E.enc z = vs)
    (h : HX P n ds ops ev wk K r (k + 1) e (St w0 F0 (Row E T g cap (xs.set i z) :: L'))) : HX1 P n ds ops ev wk K o r k e (St w0 F0 L) :=
  h_rowStore (off := 0) (z := z) (q := q) (vs := vs) hev hwk ho hp hdst (by rw [Nat.add_zero]; exact hx) hy hs hi hl (by rw [← hz, E.len]) (by omega) (by
    rw [hz, Nat.zero_add, List.drop_of_length_le (by rw [E.len]; exact Nat.le_refl _)]
    simp) h
/-- A slice that may be nil is looked at. -/
theorem hc_rowV {c : Code} {Q : Exit → Act → World → Prop} {v : Value} (hp : Pull L (RowV E T v xs) L') (h1 : v = .slice none 0 0 → xs = [] → HC P n ds c Q e (St w0 F0 L')) (h2 : ∀ g cap, v = .slice (some ⟨g, 0, none⟩) xs.length cap → HC P n ds c Q e (St w0 F0 (Row E T g cap xs :: L'))) : HC P n ds c Q e (St w0 F0 L) := ⟨fun a w ha hC => by
  rcases St.rowV.1 (hC.perm hp.perm) with ⟨e1, e2, h⟩ | ⟨g, cap, e1, h⟩
  · exact (h1 e1 e2).out a w ha h
  · exact (h2 g cap e1).out a w ha h⟩
theorem one_row (E : Elem X) (z : X) : ∀ (i : Nat) (q : X), [z][i]? = some q → ∀ (j : Nat) (u : Value), (E.enc q)[j]? = some u → (E.enc z).toArray[i * E.sz + j]? = some u := by
  intro i q hq j u hj
  match i, hq with
  | 0, hq =>
    cases hq
    rw [Nat.zero_mul, Nat.zero_add]
    simpa using hj
theorem RowV.owns {w : World} {F : Nat → Prop} {v : Value} (h : (RowV E T v xs).p w F) : ∃ fl : List Value, w.ownsRow 0 T E.sz v xs.length fl ∧ (∀ i x, xs[i]? = some x → ∀ j u, (E.enc x)[j]? = some u → fl[i * E.sz + j]? = some u) ∧ (∀ b, v.ownBlock = some b ↔ F b) := by
  rcases h with ⟨rfl, rfl, hF⟩ | ⟨g, cap, rfl, h1, cur, h2, h3, h4, h5, h6⟩
  · exact ⟨[], World.ownsRow_nil _ _ _ _, by simp, fun b => ⟨(fun h => by cases h), fun h => (hF b h).elim⟩⟩
  · have hle : xs.length * E.sz ≤ cur.size := by rw [h5]; exact Nat.mul_le_mul_right _ h3
    refine ⟨cur.toList.take (xs.length * E.sz), ⟨by simpa using Nat.min_eq_left hle, .inr ⟨g, cap, cur, rfl, Nat.zero_le _, h2, h3, h4, h5, rfl⟩⟩, fun i x hx j u hj => ?_, fun b => ⟨fun h => (h1 b).2 (Option.some.inj h).symm, fun h => congrArg some ((h1 b).1 h).symm⟩⟩
    have hi : i < xs.length := (List.getElem?_eq_some_iff.1 hx).1
    have hjs : j < E.sz := by
      have := (List.getElem?_eq_some_iff.1 hj).1
      rwa [E.len] at this
    rw [List.getElem?_take, if_pos (row_lt hi hjs)]
    simpa using h6 i x hx j u hj
theorem RowV.of_owns {w : World} {v : Value} {fl : List Value} (h : w.ownsRow 0 T E.sz v xs.length fl) (hf : ∀ i x, xs[i]? = some x → ∀ j u, (E.enc x)[j]? = some u → fl[i * E.sz + j]? = some u) : (RowV E T v xs).p w (fun b => v.ownBlock = some b) := by
  obtain ⟨hl, (⟨rfl, h0⟩ | ⟨g, cap, cur, rfl, _, h2, h3, h4, h5, h6⟩)⟩ := h
  · exact .inl ⟨rfl, List.eq_nil_of_length_eq_zero h0, fun b hb => by cases hb⟩
  · refine .inr ⟨g, cap, rfl, fun x => ⟨fun h => (Option.some.inj h).symm, fun h => congrArg some h.symm⟩, cur, h2, h3, h4, h5, fun i x hx j u hj => ?_⟩
    have h7 := hf i x hx j u hj
    rw [← h6, List.getElem?_take] at h7
    split at h7
    · simpa using h7
    · cases h7
/-- Where the longer slice lies: where it lay, or in a new block. -/
theorem append_block {P : Program} {w w' : World} {t ty : TypeId} {i : TypeInfo} {z : Value} {size bytes : Nat} (ht : P.underlying t = some (.slice T)) (hi : P.info? T = some i) (hz : i.zero = some z) (hsize : i.size = size) (hby : i.bytes = bytes) (hzs : z.cells.size = size) (hsz : 0 < size)
    {v v' : Value} {n : Nat} {fl : List Value} (hown : w.ownsRow 0 T size v n fl) {a : Addr} {m c : Nat} {news : List Value} (hl : news.length = m * size) (hnews : ∀ j u, news[j]? = some u → w.cell? (a.add j) = some u) (h1 : ∀ u ∈ news, u.oneCell' = true)
    (h63 : n + m ≤ maxLen) (hbytes : (n + m) * bytes ≤ 140737488355328) (hrun : (Builtin.append_ #[t, t] ty #[v, .slice (some a) m c]).run P w = .ok v' w') : ∀ x, v'.ownBlock = some x → v.ownBlock = some x ∨ w.heap.size ≤ x := by
  intro x hx
  obtain ⟨hfl, (⟨rfl, rfl⟩ | ⟨g, cap, cur, rfl, _, h2, h3, h4, h5, h6⟩)⟩ := id hown
  · have hx0 : fl = [] := List.eq_nil_of_length_eq_zero (by simpa using hfl)
    subst hx0
    obtain ⟨v2, w2, hrun2, hown2, _⟩ := run_append_own (P := P) (w := w) w.heap.size t ty T i z size bytes ht hi hz hsize hby hzs hsz (.slice none 0 0) 0 [] (World.ownsRow_nil _ _ _ _) a m c news hl hnews h1 h63 hbytes (Nat.le_refl _)
    rw [hrun] at hrun2
    injection hrun2 with e1 e2
    subst e1 e2
    exact .inr (hown2.lt x hx).1
  · subst hsize
    subst hby
    by_cases hroom : n + m ≤ cap
    · have hfit : n * i.size + news.length ≤ cur.size := by rw [hl, h5, ← Nat.add_mul]; exact Nat.mul_le_mul_right _ hroom
      have hr := run_append_room (P := P) w t ty T i ht hi g n cap cur h2 a m c news hl hnews h1 hroom hfit
      rw [hrun] at hr
      injection hr with e1 e2
      subst e1
      exact .inl hx
    · have holds : ∀ j u, fl[j]? = some u → w.cell? ((⟨g, 0, none⟩ : Addr).add j) = some u := hown.cells (g := g) rfl
      have hr := run_append_grow (P := P) w t ty T i z ht hi hz ⟨g, 0, none⟩ n cap fl hfl holds a m c news hl hnews (by omega) (by simp only [maxLen] at h63; omega) (growslice_fits (by omega) hbytes)
      rw [hrun] at hr
      injection hr with e1 e2
      subst e1
      exact .inr (by cases hx; exact Nat.le_refl _)
/-- append(s, ..) with elements ys that lie in a block of their own: what comes of it. -/
theorem append_core {x y : Operand} {t b m c by_ : Nat} {zv : Value} {v : Value} {cs : Array Value} {bt : Nat} {fz : Nat × Nat} {ys : List X}
    (ho : o.op = .call { callee := .builtin .append, args := #[x, y], argTypes := #[t, t] }) (hx : e.op x = some v) (hy : e.op y = some (.slice (some ⟨b, 0, none⟩) m c)) (hu : P.underlying t = some (.slice T)) (hi : ∃ i, P.info? T = some i ∧ i.size = E.sz ∧ i.bytes = by_ ∧ i.zero = some zv) (hzv : zv.cells.size = E.sz)
    (hp : Pulls L [RowV E T v xs, Blk b (.cells cs bt fz)] L') (hm : ys.length = m) (hcs : ∀ i q, ys[i]? = some q → ∀ j u, (E.enc q)[j]? = some u → cs[i * E.sz + j]? = some u)
    (h63 : xs.length + m ≤ maxLen) (hbytes : (xs.length + m) * by_ ≤ 140737488355328) {a : Act} {w : World} (ha : Has n ds a e) (hC : St w0 F0 L w) :
    ∃ v' w', (execOp a.eval o).run P w = .ok (.value v') w' ∧ St w0 F0 (RowV E T v' (xs ++ ys) :: Blk b (.cells cs bt fz) :: L') w' ∧ (v' = .slice none 0 0 ↔ v = .slice none 0 0 ∧ m = 0) := by
  have hC' : St w0 F0 ([RowV E T v xs, Blk b (.cells cs bt fz)] ++ L') w := hC.perm hp.perm
  obtain ⟨i, i1, i2, i3, i4⟩ := hi
  obtain ⟨F, ⟨F1, F2, hrow, ⟨G1, G2, ⟨hG1, hblk⟩, r2, t3, t4⟩, s3, s4⟩, rr⟩ := id hC'
  obtain ⟨fl, hown, hfl, hF1⟩ := RowV.owns hrow
  have hyl : ∀ (l : List X), (l.flatMap E.enc).length = l.length * E.sz := by
    intro l
    induction l with
    | nil => simp
    | cons q l ih => simp [ih, E.len, Nat.add_mul, Nat.add_comm]
  have hflat : ∀ (l : List X) (j : Nat) (u : Value), (l.flatMap E.enc)[j]? = some u → ∃ i q j', l[i]? = some q ∧ (E.enc q)[j']? = some u ∧ j = i * E.sz + j' := by
    intro l
    induction l with
    | nil => intro j u hj; simp at hj
    | cons q l ih =>
      intro j u hj
      rw [List.flatMap_cons] at hj
      rcases Nat.lt_or_ge j (E.enc q).length with hlt | hge
      · rw [List.getElem?_append_left hlt] at hj
        exact ⟨0, q, j, rfl, hj, by simp⟩
      · rw [List.getElem?_append_right hge] at hj
        obtain ⟨i, q', j', h1, h2, h3⟩ := ih _ _ hj
        refine ⟨i + 1, q', j', h1, h2, ?_⟩
        rw [E.len] at h3 hge
        rw [Nat.add_mul]
        omega
  have hflat2 : ∀ (l : List X) (i : Nat) (q : X), l[i]? = some q → ∀ j u, (E.enc q)[j]? = some u → (l.flatMap E.enc)[i * E.sz + j]? = some u := by
    intro l
    induction l with
    | nil => intro i q hq; simp at hq
    | cons q0 l ih =>
      intro i q hq j u hj
      rw [List.flatMap_cons]
      cases i with
      | zero =>
        obtain rfl : q0 = q := by simpa using hq
        have := (List.getElem?_eq_some_iff.1 hj).1
        rw [Nat.zero_mul, Nat.zero_add, List.getElem?_append_left this]
        exact hj
      | succ i =>
        have h1 := ih i q (by simpa using hq) j u hj
        rw [List.getElem?_append_right (by rw [E.len, Nat.add_mul]; omega), E.len, show (i + 1) * E.sz + j - E.sz = i * E.sz + j by rw [Nat.add_mul]; omega]
        exact h1
  have hnl : (ys.flatMap E.enc).length = m * E.sz := by rw [hyl, hm]
  have hnc : ∀ j u, (ys.flatMap E.enc)[j]? = some u → w.cell? ((⟨b, 0, none⟩ : Addr).add j) = some u := (fun j u hj => by
      obtain ⟨i, q, j', h1, h2, rfl⟩ := hflat _ _ _ hj
      have e1 : (⟨b, 0, none⟩ : Addr).add (i * E.sz + j') = ⟨b, i * E.sz + j', none⟩ := by
        unfold Addr.add
        split
        · rename_i h0; rw [h0]
        · simp
      rw [e1, blk_cell hblk]
      exact hcs i q h1 j' u h2)
  have h1c : ∀ u ∈ ys.flatMap E.enc, u.oneCell' = true := (fun u hu => by
      obtain ⟨q, _, hq⟩ := List.mem_flatMap.1 hu
      exact E.one q u hq)
  obtain ⟨v', w', hrun, hown', hgr, hnil⟩ := run_append_own (P := P) (w := w) 0 t o.type T i zv E.sz by_ hu i1 i4 i2 i3 hzv E.pos v xs.length fl hown ⟨b, 0, none⟩ m c (ys.flatMap E.enc) hnl hnc h1c h63 hbytes (Nat.zero_le _)
  have : (execOp a.eval o).run P w = .ok (.value v') w' := by
    simp [execOp, ho, resolve, invoke, builtin, ha.eval hx, ha.eval hy, hrun]
  refine ⟨v', w', this, ?_, hnil⟩
  have hC3 : St w0 F0 ([RowV E T v xs] ++ (Blk b (.cells cs bt fz) :: L')) w := hC'
  refine St.call (pre := [RowV E T v xs]) (post := [RowV E T v' (xs ++ ys)]) (w' := w') hC3 (fun G hG => ?_)
  obtain ⟨H1, H2, hrow2, _, _, g4⟩ := hG
  obtain ⟨_, _, _, hH1⟩ := RowV.owns hrow2
  have hown2 : w'.ownsRow 0 T E.sz v' (xs ++ ys).length (fl ++ ys.flatMap E.enc) := by rw [List.length_append, hm]; exact hown'
  have hnew := RowV.of_owns (E := E) (xs := xs ++ ys) hown2 (fun i q hq j u hj => by
    have hjs : j < E.sz := by
      have := (List.getElem?_eq_some_iff.1 hj).1
      rwa [E.len] at this
    rcases Nat.lt_or_ge i xs.length with hlt | hge
    · rw [List.getElem?_append_left hlt] at hq
      rw [List.getElem?_append_left (by rw [hown.1]; exact row_lt hlt hjs)]
      exact hfl i q hq j u hj
    · rw [List.getElem?_append_right hge] at hq
      have hle : fl.length ≤ i * E.sz + j := by rw [hown.1]; exact Nat.le_trans (Nat.mul_le_mul_right _ hge) (Nat.le_add_right _ _)
      rw [List.getElem?_append_right hle, hown.1]
      have := hflat2 ys (i - xs.length) q hq j u hj
      rw [← this]
      congr 1
      rw [Nat.sub_mul]
      have := Nat.mul_le_mul_right E.sz hge
      omega)
  refine ⟨fun x => v'.ownBlock = some x, ⟨_, fun _ => False, hnew, trivial, fun _ _ h => h, fun _ h => h.elim id False.elim⟩, ⟨hgr.os, hgr.tape, hgr.output, hgr.size, fun j hj hn => hgr.block j hj fun e => hn (g4 j (.inl ((hH1 j).1 e.symm)))⟩, fun x hx => ?_⟩
  rcases append_block (P := P) hu i1 i4 i2 i3 hzv E.pos hown hnl hnc h1c h63 hbytes hrun x hx with h | h
  · exact .inl (g4 x (.inl ((hH1 x).1 h)))
  · exact .inr h
/-- append(s, ..) with elements ys that lie in a block of their own. -/
theorem h_append {x y : Operand} {t b m c by_ : Nat} {zv : Value} {v : Value} {cs : Array Value} {bt : Nat} {fz : Nat × Nat} {ys : List X} (hev : ev k = true) (hwk : wk k = false)
    (ho : o.op = .call { callee := .builtin .append, args := #[x, y], argTypes := #[t, t] }) (hx : e.op x = some v) (hy : e.op y = some (.slice (some ⟨b, 0, none⟩) m c)) (hu : P.underlying t = some (.slice T)) (hi : ∃ i, P.info? T = some i ∧ i.size = E.sz ∧ i.bytes = by_ ∧ i.zero = some zv) (hzv : zv.cells.size = E.sz)
    (hp : Pulls L [RowV E T v xs, Blk b (.cells cs bt fz)] L') (hm : ys.length = m) (hcs : ∀ i q, ys[i]? = some q → ∀ j u, (E.enc q)[j]? = some u → cs[i * E.sz + j]? = some u)
    (h63 : xs.length + m ≤ maxLen) (hbytes : (xs.length + m) * by_ ≤ 140737488355328) {dd : Nat} (hdst : o.dst = some dd) (hd : okD n (some dd) = true)
    (h : ∀ v', (v' = .slice none 0 0 ↔ v = .slice none 0 0 ∧ m = 0) → HX P n ds ops ev wk K r (k + 1) ((dd, v') :: e) (St w0 F0 (RowV E T v' (xs ++ ys) :: Blk b (.cells cs bt fz) :: L'))) : HX1 P n ds ops ev wk K o r k e (St w0 F0 L) :=
  hx1_event hev (fun a w ha hC => by
    obtain ⟨v', w', hrun, hst, hnil⟩ := append_core (ys := ys) ho hx hy hu hi hzv hp hm hcs h63 hbytes ha hC
    unfold Oper.wp
    rw [hrun]
    exact ⟨_, _, hst, (fun h => by rw [hwk] at h; cases h), by rw [hdst]; exact ha.put hd v', h v' hnil⟩)
/-- .. at least one: an array comes of it. -/
theorem h_appendR {x y : Operand} {t b m c by_ : Nat} {zv : Value} {v : Value} {cs : Array Value} {bt : Nat} {fz : Nat × Nat} {ys : List X} (hev : ev k = true) (hwk : wk k = false)
    (ho : o.op = .call { callee := .builtin .append, args := #[x, y], argTypes := #[t, t] }) (hx : e.op x = some v) (hy : e.op y = some (.slice (some ⟨b, 0, none⟩) m c)) (hu : P.underlying t = some (.slice T)) (hi : ∃ i, P.info? T = some i ∧ i.size = E.sz ∧ i.bytes = by_ ∧ i.zero = some zv) (hzv : zv.cells.size = E.sz)
    (hp : Pulls L [RowV E T v xs, Blk b (.cells cs bt fz)] L') (hm : ys.length = m) (hm0 : Nat.beq m 0 = false) (hcs : ∀ i q, ys[i]? = some q → ∀ j u, (E.enc q)[j]? = some u → cs[i * E.sz + j]? = some u)
    (h63 : xs.length + m ≤ maxLen) (hbytes : (xs.length + m) * by_ ≤ 140737488355328) {dd : Nat} (hdst : o.dst = some dd) (hd : okD n (some dd) = true)
    (h : ∀ g' cap', HX P n ds ops ev wk K r (k + 1) ((dd, .slice (some ⟨g', 0, none⟩) (xs ++ ys).length cap') :: e) (St w0 F0 (Row E T g' cap' (xs ++ ys) :: Blk b (.cells cs bt fz) :: L'))) : HX1 P n ds ops ev wk K o r k e (St w0 F0 L) :=
  hx1_event hev (fun a w ha hC => by
    obtain ⟨v', w', hrun, hst, hnil⟩ := append_core (ys := ys) ho hx hy hu hi hzv hp hm hcs h63 hbytes ha hC
    unfold Oper.wp
    rw [hrun]
    rcases St.rowV.1 hst with ⟨e1, _, _⟩ | ⟨g', cap', rfl, hst'⟩
    · have := (hnil.1 e1).2
      subst this
      cases hm0
    · exact ⟨_, _, hst', (fun h => by rw [hwk] at h; cases h), by rw [hdst]; exact ha.put hd _, h g' cap'⟩)
end
end Go.Proofs.YtfolhmlldoepfaaGreatDoor
namespace Go.Proofs.YtfolhmlldoepfaaGreatDoor
open Go
/-- How a key lies in memory. -/
structure KeyOf (A : Type) where
  val : A → Value
  desc : TypeDesc
  dec : DecidableEq A
  same : ∀ a b, Instr.sameNow desc (val a) (val b) = some (@decide (a = b) (dec a b))
  free : ∀ (P : Program) (w : World) (b : Bool) (t : TypeId) (a : A), P.underlying t = some desc → (Instr.checkKey b 10000 t (val a)).run P w = .ok () w
  bits : ∀ a, Instr.sameBits 10000 (val a) (val a) = true
variable {A : Type}
section
variable {P : Program} {w : World} {KO : KeyOf A}
end
section
variable {P : Program} {n : Nat} {ds : List Deferred} {ops : Array Oper} {ev wk : Nat → Bool} {K : Env → (World → Prop) → Prop} {r : List Oper} {o : Oper} {k : Nat} {e : Env} {w0 : World} {F0 : Nat → Prop} {L L' : List Asn} {KO : KeyOf A} {m : List (A × Value)} {g : Nat}
end
section
variable {KO : KeyOf A}
end
end Go.Proofs.YtfolhmlldoepfaaGreatDoor
namespace Go.Proofs.YtfolhmlldoepfaaGreatDoor
open Go
def setCells : List Value → Nat → List Value → List Value
  | cs, _, [] => cs
  | cs, i, v :: l => setCells (cs.set i v) (i + 1) l
theorem setCells_many (l : List Value) : ∀ (cs : Array Value) (i : Nat), (setCells cs.toList i l).toArray = setMany cs i l := by
  induction l with
  | nil => intro cs i; simp [setCells, setMany]
  | cons v l ih =>
    intro cs i
    rw [setCells, setMany, ← ih]
    simp
theorem fold_setMany (l : List Value) : ∀ (cs : Array Value) (off i : Nat), (l.zipIdx i).foldl (fun (cs : Array Value) (c : Value × Nat) => cs.setIfInBounds (off + c.2) c.1) cs = setMany cs (off + i) l := by
  induction l with
  | nil => intro cs off i; rfl
  | cons v l ih =>
    intro cs off i
    rw [List.zipIdx_cons, List.foldl_cons, setMany, ih, Nat.add_assoc]
theorem fill_step (place : Nat → Option (Nat × Nat)) (cells : Array Value) (i : Nat) (v : Value) (rest : List (Nat × Value)) (off size : Nat) (hp : place i = some (off, size)) (hs : v.cells.size = size) (hf : off + size ≤ cells.size) :
    Instr.fill place cells ((i, v) :: rest) = Instr.fill place (setMany cells off v.cells.toList) rest := by
  rw [Instr.fill, hp]
  simp only
  rw [if_neg (by rw [hs]; simp; omega)]
  congr 1
  rw [← Array.foldl_toList, Array.toList_zipIdx]
  exact fold_setMany _ _ _ 0
/-- The parts of a struct laid in their places. -/
def fillL (pl : List (Nat × Nat)) : List Value → List (Nat × Value) → Option (List Value)
  | cs, [] => some cs
  | cs, (i, v) :: r => match nth pl i with
    | none => none
    | some (off, s) => bif Nat.beq v.cells.toList.length s && Nat.ble (off + s) cs.length then fillL pl (setCells cs off v.cells.toList) r else none
theorem fillL_fill {pl : List (Nat × Nat)} : ∀ (parts : List (Nat × Value)) (cs : List Value) (out : List Value), fillL pl cs parts = some out → Instr.fill (fun i => pl[i]?) cs.toArray parts = some out.toArray
  | [], cs, out, h => by cases h; rfl
  | (i, v) :: r, cs, out, h => by
    simp only [fillL] at h
    split at h
    · cases h
    · rename_i off s hn
      cases hb : (Nat.beq v.cells.toList.length s && Nat.ble (off + s) cs.length) with
      | false => rw [hb] at h; cases h
      | true =>
        rw [hb] at h
        simp only [Bool.and_eq_true] at hb
        have h1 := Nat.eq_of_beq_eq_true hb.1
        have h2 := Nat.le_of_ble_eq_true hb.2
        rw [fill_step _ _ _ _ _ off s (by rw [← nth_eq]; exact hn) (by simpa using h1) (by simpa using h2)]
        have := fillL_fill r _ out h
        rwa [show cs = cs.toArray.toList by simp, setCells_many] at this
class BC (P : Program) (t : Nat) (pl : outParam (List (Nat × Nat))) (z : outParam (List Value)) : Prop where
  out : ∃ fs zv, P.underlying t = some (.struct fs) ∧ ZeroOf P t zv ∧ zv.cells = z.toArray ∧ fs.toList.length = pl.length ∧ ∀ (i : Nat) (f : Field), fs.toList[i]? = some f → ∃ o s, pl[i]? = some (o, s) ∧ f.offset = o ∧ SizeOf P f.type s
section
variable {P : Program} {n : Nat} {ds : List Deferred} {ops : Array Oper} {ev wk : Nat → Bool} {K : Env → (World → Prop) → Prop} {r : List Oper} {o : Oper} {k : Nat} {e : Env} {C : World → Prop} {w0 : World} {F0 : Nat → Prop} {L L' : List Asn}
def Env.parts (e : Env) : List (Nat × Operand) → Option (List (Nat × Value))
  | [] => some []
  | (i, x) :: l => match e.op x, Env.parts e l with
    | some v, some vs => some ((i, v) :: vs)
    | _, _ => none
theorem Has.parts {a : Act} (h : Has n ds a e) : ∀ {l : List (Nat × Operand)} {vs : List (Nat × Value)}, e.parts l = some vs → l.map (fun (i, x) => (i, a.eval x)) = vs
  | [], _, hx => by cases hx; rfl
  | (i, x) :: l, vs, hx => by
    simp only [Env.parts] at hx
    split at hx
    · rename_i v us h1 h2
      cases hx
      simp [h.eval h1, h.parts h2]
    · cases hx
theorem run_places {w : World} {fs : List Field} {pl : List (Nat × Nat)} (hl : fs.length = pl.length) (h : ∀ (i : Nat) (f : Field), fs[i]? = some f → ∃ o s, pl[i]? = some (o, s) ∧ f.offset = o ∧ SizeOf P f.type s) :
    (fs.mapM (m := Sem) fun f => do pure (f.offset, ← sizeOf f.type)).run P w = .ok pl w := by
  induction fs generalizing pl with
  | nil => cases pl with
    | nil => rfl
    | cons p pl => cases hl
  | cons f fs ih =>
    cases pl with
    | nil => cases hl
    | cons p pl =>
      obtain ⟨o, s, h1, h2, h3⟩ := h 0 f rfl
      cases h1
      have h4 := ih (pl := pl) (by simpa using hl) (fun i g hg => h (i + 1) g (by simpa using hg))
      rw [List.mapM_cons]
      simp only [Sem.run_bind]
      simp [run_size h3, h2]
      simp at h4
      rw [h4]
      rfl
theorem h_build {t : Nat} {ps : Array (Nat × Operand)} {pl : List (Nat × Nat)} {z : List Value} {vs : List (Nat × Value)} {cs : List Value} (ho : o.op = .build t ps) (hb : BC P t pl z) (hvs : e.parts ps.toList = some vs) (hf : fillL pl z vs = some cs)
    {dd : Nat} (hdst : o.dst = some dd) (hd : okD n (some dd) = true) (h : HX P n ds ops ev wk K r (k + 1) ((dd, .agg cs.toArray) :: e) C) : HX1 P n ds ops ev wk K o r k e C :=
  hx1_pure (by rw [ho]; rfl) hdst hd (fun a w ha => by
    obtain ⟨fs, zv, hu, hz, hzc, hl, hpl⟩ := hb.out
    have e1 : ps.map (fun (i, x) => (i, a.eval x)) = vs.toArray := by
      rw [← ha.parts hvs]
      exact Array.ext' (by simp)
    have h2 := run_places (P := P) (w := w) hl hpl
    have h3 : (fs.mapM (m := Sem) fun f => do pure (f.offset, ← sizeOf f.type)).run P w = .ok pl.toArray w := by
      rw [show fs = fs.toList.toArray by simp, List.mapM_toArray]
      simp at h2 ⊢
      rw [h2]
      rfl
    have h4 := fillL_fill vs z cs hf
    have h5 : (Instr.fill (fun x => pl.toArray[x]?) z.toArray vs) = some cs.toArray := by simpa using h4
    simp only [execOp, ho, e1, Instr.build]
    simp [run_zero hz, run_und hu, hzc]
    simp at h3
    rw [h3]
    simp [h4]) h
theorem fill_full {size : Nat} : ∀ (vs : List Value) (k : Nat) (cells : Array Value) (pre : List Value), (∀ v ∈ vs, v.cells.size = size) → pre.length = k * size → cells.size = (k + vs.length) * size → (∀ i, i < pre.length → cells[i]? = pre[i]?) →
    Instr.fill (fun i => some (i * size, size)) cells ((vs.zipIdx k).map fun p => (p.2, p.1)) = some (pre ++ vs.flatMap (fun v => v.cells.toList)).toArray
  | [], k, cells, pre, _, hp, hc, hi => by
    simp only [List.zipIdx_nil, List.map_nil, Instr.fill, List.flatMap_nil, List.append_nil]
    congr 1
    apply Array.ext_getElem?
    intro i
    by_cases h : i < pre.length
    · rw [hi i h]; simp
    · rw [Array.getElem?_eq_none (by simp at hc; omega)]
      simp
      omega
  | v :: vs, k, cells, pre, hv, hp, hc, hi => by
    have h1 := hv v (List.mem_cons_self ..)
    simp only [List.length_cons] at hc
    have hroom : k * size + size ≤ cells.size := by rw [hc]; have : (k + (vs.length + 1)) * size = k * size + size + vs.length * size := by rw [Nat.add_mul, Nat.add_mul]; omega
                                                    omega
    rw [List.zipIdx_cons, List.map_cons, fill_step _ _ _ _ _ (k * size) size rfl h1 hroom]
    rw [fill_full vs (k + 1) _ (pre ++ v.cells.toList) (fun u hu => hv u (List.mem_cons_of_mem _ hu)) (by simp [hp, h1, Nat.add_mul]) (by rw [setMany_size, hc]; congr 1; omega) (fun i hi' => by
      rw [setMany_get _ _ _ _ (by simpa [h1] using hroom)]
      simp only [List.length_append, Array.length_toList, h1] at hi' ⊢
      by_cases hlt : i < pre.length
      · rw [if_neg (by omega), hi i hlt, List.getElem?_append_left hlt]
      · rw [if_pos (by omega), List.getElem?_append_right (by omega), hp])]
    congr 2
    simp
def Env.elems (e : Env) (k : Nat) : List (Nat × Operand) → Option (List Value)
  | [] => some []
  | (i, x) :: l => bif Nat.beq i k then (match e.op x, Env.elems e (k + 1) l with
    | some v, some vs => some (v :: vs)
    | _, _ => none) else none
theorem Has.elems {a : Act} (h : Has n ds a e) : ∀ {l : List (Nat × Operand)} {k : Nat} {vs : List Value}, e.elems k l = some vs → l.map (fun (i, x) => (i, a.eval x)) = (vs.zipIdx k).map (fun p => (p.2, p.1)) ∧ vs.length = l.length
  | [], _, _, hx => by cases hx; exact ⟨rfl, rfl⟩
  | (i, x) :: l, k, vs, hx => by
    simp only [Env.elems] at hx
    cases hb : Nat.beq i k with
    | false => rw [hb] at hx; cases hx
    | true =>
      rw [hb] at hx
      obtain rfl := Nat.eq_of_beq_eq_true hb
      simp only [cond_true] at hx
      split at hx
      · rename_i v us h1 h2
        cases hx
        obtain ⟨h3, h4⟩ := h.elems h2
        simp [h.eval h1, h3, h4]
      · cases hx
/-- A new array, all its elements told. -/
theorem h_buildSlice {t el len size : Nat} {ps : Array (Nat × Operand)} {vs : List Value} {zv : Value} (hev : ev k = true) (hwk : wk k = false) (ho : o.op = .buildSlice t len ps) (hu : P.underlying t = some (.slice el)) (hs : SizeOf P el size) (hz : ZeroOf P el zv) (hvs : e.elems 0 ps.toList = some vs) (hlen : Nat.beq vs.length len = true) (hsz : ∀ v ∈ vs, v.cells.size = size) (hbig : len * size ≤ 2 ^ 24)
    {dd : Nat} (hdst : o.dst = some dd) (hd : okD n (some dd) = true) (h : ∀ b, HX P n ds ops ev wk K r (k + 1) ((dd, .slice (some ⟨b, 0, none⟩) len len) :: e) (St w0 F0 (Blk b (.cells (vs.flatMap (fun v => v.cells.toList)).toArray el (0, 0)) :: L))) : HX1 P n ds ops ev wk K o r k e (St w0 F0 L) :=
  hx1_event hev (fun a w ha hC => by
    obtain ⟨e1, e2⟩ := ha.elems hvs
    have hl := Nat.eq_of_beq_eq_true hlen
    have e3 : ps.map (fun (i, x) => (i, a.eval x)) = ((vs.zipIdx 0).map (fun p => (p.2, p.1))).toArray := by
      rw [← e1]
      exact Array.ext' (by simp)
    unfold Oper.wp
    have : (execOp a.eval o).run P w = .ok (.value (.slice (some ⟨w.heap.size, 0, none⟩) len len)) (w.alloc (.cells (vs.flatMap (fun v => v.cells.toList)).toArray el (0, 0))) := by
      have hfill : ∀ (c0 : Array Value), c0.size = len * size → Instr.fill (fun i => some (i * size, size)) c0 ((vs.zipIdx 0).map (fun p => (p.2, p.1))) = some (vs.flatMap (fun v => v.cells.toList)).toArray := fun c0 hc => by
        have := fill_full (size := size) vs 0 c0 [] hsz (by simp) (by simpa [hl] using hc) (by simp)
        simpa using this
      simp only [execOp, ho, e3, Instr.buildSlice]
      have hn : ¬ (len * size > 2 ^ 24) := by omega
      by_cases h0 : len * size = 0
      · simp [run_und hu, run_size hs, h0]
        rw [hfill (Array.map (fun _ => default) (Array.range 0)) (by simp [h0])]
        simp [newRow]
      · have hf := hfill ((Array.range (len * size)).map (zv.cells[· % zv.cells.size]!)) (by simp)
        simp [run_und hu, run_size hs, hn, h0, run_zero hz] at hf ⊢
        simp [hf, newRow]
    rw [this]
    exact ⟨_, _, hC.new _, (fun h => by rw [hwk] at h; cases h), (by rw [hdst]; exact ha.put hd _), h _⟩)
/-- s[:h]. -/
theorem h_sliceTo {t el len cap : Nat} {x y : Operand} {a0 : Option Addr} {q : IntKind} {i : Int} {s : Nat} (ho : o.op = .slice t x none (some y) none) (hx : e.op x = some (.slice a0 len cap)) (hy : e.op y = some (.int q i)) (hu : P.underlying t = some (.slice el)) (hs : SizeOf P el s) (hi : 0 ≤ i ∧ i ≤ cap)
    {dd : Nat} (hdst : o.dst = some dd) (hd : okD n (some dd) = true) (h : HX P n ds ops ev wk K r (k + 1) ((dd, .slice a0 i.toNat cap) :: e) C) : HX1 P n ds ops ev wk K o r k e C :=
  hx1_pure (by rw [ho]; rfl) hdst hd (fun a w ha => by
    have e1 : (if cap = 0 then a0 else a0.map (·.add 0)) = a0 := by
      split
      · rfl
      · cases a0 <;> simp [Addr.add]
    simp [execOp, ho, ha.eval hx, ha.eval hy, Instr.sliceAt, Instr.slice, run_und hu, Instr.sliceBounds, Instr.sliceBound, asIntOf, hi.1, hi.2, run_size hs, e1]) h
/-- s[l:]. -/
theorem h_sliceFrom {t el len cap : Nat} {x y : Operand} {a0 : Option Addr} {q : IntKind} {i : Int} {s : Nat} (ho : o.op = .slice t x (some y) none none) (hx : e.op x = some (.slice a0 len cap)) (hy : e.op y = some (.int q i)) (hu : P.underlying t = some (.slice el)) (hs : SizeOf P el s) (hi : 0 ≤ i ∧ i ≤ len)
    {dd : Nat} (hdst : o.dst = some dd) (hd : okD n (some dd) = true) (h : HX P n ds ops ev wk K r (k + 1) ((dd, .slice (if cap = i.toNat then a0 else a0.map (·.add (i.toNat * s))) (len - i.toNat) (cap - i.toNat)) :: e) C) : HX1 P n ds ops ev wk K o r k e C :=
  hx1_pure (by rw [ho]; rfl) hdst hd (fun a w ha => by
    simp [execOp, ho, ha.eval hx, ha.eval hy, Instr.sliceAt, Instr.slice, run_und hu, Instr.sliceBounds, Instr.sliceBound, asIntOf, hi.1, hi.2, run_size hs]) h
/-- s[l:h]. -/
theorem h_sliceFT {t el len cap : Nat} {x y z : Operand} {a0 : Option Addr} {q q2 : IntKind} {i j : Int} {s : Nat} (ho : o.op = .slice t x (some y) (some z) none) (hx : e.op x = some (.slice a0 len cap)) (hy : e.op y = some (.int q i)) (hz : e.op z = some (.int q2 j)) (hu : P.underlying t = some (.slice el)) (hs : SizeOf P el s) (hi : 0 ≤ i ∧ i ≤ j ∧ j ≤ cap)
    {dd : Nat} (hdst : o.dst = some dd) (hd : okD n (some dd) = true) (h : HX P n ds ops ev wk K r (k + 1) ((dd, .slice (if cap = i.toNat then a0 else a0.map (·.add (i.toNat * s))) (j.toNat - i.toNat) (cap - i.toNat)) :: e) C) : HX1 P n ds ops ev wk K o r k e C :=
  hx1_pure (by rw [ho]; rfl) hdst hd (fun a w ha => by
    have h1 : 0 ≤ j := by omega
    have h2 : i ≤ (j.toNat : Int) := by omega
    have h3 : i ≤ max j 0 := by omega
    simp [execOp, ho, ha.eval hx, ha.eval hy, ha.eval hz, Instr.sliceAt, Instr.slice, run_und hu, Instr.sliceBounds, Instr.sliceBound, asIntOf, hi.1, hi.2.2, h1, h3, run_size hs]) h
/-- A number of another kind. -/
theorem h_convInt {src dst : TypeId} {x : Operand} {ds1 : TypeDesc} {q q2 : IntKind} {a : Int} (ho : o.op = .convert src dst x) (hx : e.op x = some (.int q a)) (hu : P.underlying src = some ds1) (hu2 : P.underlying dst = some (.int q2))
    {dd : Nat} (hdst : o.dst = some dd) (hd : okD n (some dd) = true) (h : HX P n ds ops ev wk K r (k + 1) ((dd, .int q2 (q2.wrap a)) :: e) C) : HX1 P n ds ops ev wk K o r k e C :=
  hx1_read (by rw [ho]; rfl) (by rw [ho]; rfl) hdst hd (fun b w ha _ => by
    simp [execOp, ho, ha.eval hx, convert, run_und hu, run_und hu2, Conv.intToInt]) h
end
end Go.Proofs.YtfolhmlldoepfaaGreatDoor
namespace Go.Proofs.YtfolhmlldoepfaaGreatDoor
open Go
variable {X : Type}
abbrev nowhere : Nat → Prop := fun _ => False
/-- In w the slice v reads as xs. -/
def Rd (E : Elem X) (w : World) (v : Value) (xs : List X) : Prop :=
  ∃ a cap, v = .slice a xs.length cap ∧ xs.length ≤ cap ∧ cap ≤ maxLen ∧ (xs = [] ∨ ∃ g off, a = some ⟨g, off, none⟩ ∧ ∀ i x, xs[i]? = some x → ∀ j u, (E.enc x)[j]? = some u → w.cell? ⟨g, off + i * E.sz + j, none⟩ = some u)
theorem cell_lt {w : World} {a : Addr} {v : Value} (h : w.cell? a = some v) : a.block < w.heap.size := by
  unfold World.cell? at h
  split at h
  · rename_i hb; exact (Array.getElem?_eq_some_iff.1 hb).1
  · cases h
theorem But.cell {w w' : World} {S : Nat → Prop} (hb : But w w' S) {a : Addr} {v : Value} (hS : ¬ S a.block) (h : w.cell? a = some v) : w'.cell? a = some v := by
  have := hb.blk a.block (cell_lt h) hS
  unfold World.cell? at h ⊢
  rw [this]
  exact h
theorem Rd.but {E : Elem X} {w w' : World} {v : Value} {xs : List X} (h : Rd E w v xs) (hb : But w w' nowhere) : Rd E w' v xs := by
  obtain ⟨a, cap, h1, h2, h3, h4⟩ := h
  refine ⟨a, cap, h1, h2, h3, h4.imp id ?_⟩
  rintro ⟨g, off, e, hc⟩
  exact ⟨g, off, e, fun i x hx j u hu => hb.cell (fun h => h) (hc i x hx j u hu)⟩
theorem St.but {w0 : World} {F0 : Nat → Prop} {L : List Asn} {w : World} (h : St w0 F0 L w) : But w0 w F0 := let ⟨_, _, h2, _⟩ := h; h2
theorem St.rd {E : Elem X} {w0 : World} {L : List Asn} {w : World} {v : Value} {xs : List X} (h : St w0 nowhere L w) (hr : Rd E w0 v xs) : Rd E w v xs := hr.but h.but
theorem St.rdRow {E : Elem X} {T g cap : Nat} {w0 : World} {F0 : Nat → Prop} {L L' : List Asn} {w : World} {xs : List X} (h : St w0 F0 L w) (hp : Pull L (Row E T g cap xs) L') : Rd E w (.slice (some ⟨g, 0, none⟩) xs.length cap) xs := by
  obtain ⟨F, _, cur, hb, h3, h4, h5, h6⟩ := h.get hp
  exact ⟨_, cap, rfl, h3, h4, .inr ⟨g, 0, rfl, fun i x hx j u hu => by rw [blk_cell hb, Nat.zero_add]; exact h6 i x hx j u hu⟩⟩
theorem St.rdRowV {E : Elem X} {T : Nat} {v : Value} {w0 : World} {F0 : Nat → Prop} {L L' : List Asn} {w : World} {xs : List X} (h : St w0 F0 L w) (hp : Pull L (RowV E T v xs) L') : Rd E w v xs := by
  rcases St.rowV.1 (h.perm hp.perm) with ⟨rfl, rfl, _⟩ | ⟨g, cap, rfl, h2⟩
  · exact ⟨none, 0, rfl, Nat.le_refl _, by decide, .inl rfl⟩
  · exact h2.rdRow .head
theorem St.rdBlk {E : Elem X} {b m : Nat} {cs : Array Value} {bt : TypeId} {fz : Nat × Nat} {w0 : World} {F0 : Nat → Prop} {L L' : List Asn} {w : World} (xs : List X) (h : St w0 F0 L w) (hp : Pull L (Blk b (.cells cs bt fz)) L') (hm : xs.length = m) (hl : m ≤ maxLen)
    (hcs : ∀ i q, xs[i]? = some q → ∀ j u, (E.enc q)[j]? = some u → cs[i * E.sz + j]? = some u) : Rd E w (.slice (some ⟨b, 0, none⟩) m m) xs := by
  obtain ⟨F, _, hb⟩ := h.get hp
  subst hm
  exact ⟨_, _, rfl, Nat.le_refl _, hl, .inr ⟨b, 0, rfl, fun i x hx j u hu => by rw [blk_cell hb, Nat.zero_add]; exact hcs i x hx j u hu⟩⟩
theorem flat_row (E : Elem X) : ∀ (l : List X) (i : Nat) (q : X), l[i]? = some q → ∀ (j : Nat) (u : Value), (E.enc q)[j]? = some u → (l.flatMap E.enc).toArray[i * E.sz + j]? = some u := by
  have key : ∀ (l : List X) (i : Nat) (q : X), l[i]? = some q → ∀ (j : Nat) (u : Value), (E.enc q)[j]? = some u → (l.flatMap E.enc)[i * E.sz + j]? = some u := by
    intro l
    induction l with
    | nil => intro i q hq; simp at hq
    | cons q0 l ih =>
      intro i q hq j u hj
      rw [List.flatMap_cons]
      cases i with
      | zero =>
        obtain rfl : q0 = q := by simpa using hq
        have := (List.getElem?_eq_some_iff.1 hj).1
        rw [Nat.zero_mul, Nat.zero_add, List.getElem?_append_left this]
        exact hj
      | succ i =>
        have h1 := ih i q (by simpa using hq) j u hj
        rw [List.getElem?_append_right (by rw [E.len, Nat.add_mul]; omega), E.len, show (i + 1) * E.sz + j - E.sz = i * E.sz + j by rw [Nat.add_mul]; omega]
        exact h1
  intro l i q hq j u hj
  simpa using key l i q hq j u hj
section
variable {P : Program} {n : Nat} {ds : List Deferred} {ops : Array Oper} {ev wk : Nat → Bool} {K : Env → (World → Prop) → Prop} {r : List Oper} {o : Oper} {k : Nat} {e : Env} {w0 : World} {L L' : List Asn} {E : Elem X} {xs : List X}
/-- A load out of a slice that is only read. -/
theorem h_rdLoad {t g off i j : Nat} {x : Operand} {d : TypeDesc} {y : X} {v : Value} (ho : o.op = .load t x) (hr : ∀ i x, xs[i]? = some x → ∀ j u, (E.enc x)[j]? = some u → w0.cell? ⟨g, off + i * E.sz + j, none⟩ = some u) (hx : e.op x = some (.pointer (some ⟨g, off + i * E.sz + j, none⟩))) (hu : P.underlying t = some d) (hna : aggD d = false)
    (hi : xs[i]? = some y) (hv : nth (E.enc y) j = some v) {dd : Nat} (hdst : o.dst = some dd) (hd : okD n (some dd) = true) (h : HX P n ds ops ev wk K r (k + 1) ((dd, v) :: e) (St w0 nowhere L)) : HX1 P n ds ops ev wk K o r k e (St w0 nowhere L) :=
  hx1_read (by rw [ho]; rfl) (by rw [ho]; rfl) hdst hd (fun a w ha hC => by
    have hc := hr i y hi j v (by rw [← nth_eq]; exact hv)
    simp [execOp, ho, ha.eval hx, run_load1 hu hna (hC.but.cell (fun h => h) hc)]) h
/-- .. of a whole element, one cell. -/
theorem h_rdLoad1 {t g off i : Nat} {x : Operand} {d : TypeDesc} {y : X} {v : Value} (ho : o.op = .load t x) (hr : ∀ i x, xs[i]? = some x → ∀ j u, (E.enc x)[j]? = some u → w0.cell? ⟨g, off + i * E.sz + j, none⟩ = some u) (hx : e.op x = some (.pointer (some ⟨g, off + i * E.sz, none⟩))) (hu : P.underlying t = some d) (hna : aggD d = false)
    (hi : xs[i]? = some y) (hv : nth (E.enc y) 0 = some v) {dd : Nat} (hdst : o.dst = some dd) (hd : okD n (some dd) = true) (h : HX P n ds ops ev wk K r (k + 1) ((dd, v) :: e) (St w0 nowhere L)) : HX1 P n ds ops ev wk K o r k e (St w0 nowhere L) :=
  h_rdLoad (j := 0) ho hr hx hu hna hi hv hdst hd h
theorem h_rdLoadN {t g off i : Nat} {x : Operand} {d : TypeDesc} {y : X} {cs : Array Value} (ho : o.op = .load t x) (hr : ∀ i x, xs[i]? = some x → ∀ j u, (E.enc x)[j]? = some u → w0.cell? ⟨g, off + i * E.sz + j, none⟩ = some u) (hx : e.op x = some (.pointer (some ⟨g, off + i * E.sz, none⟩))) (hu : P.underlying t = some d) (hna : aggD d = true) (hs : SizeOf P t E.sz)
    (hi : xs[i]? = some y) (hcs : (E.enc y).toArray = cs) {dd : Nat} (hdst : o.dst = some dd) (hd : okD n (some dd) = true) (h : HX P n ds ops ev wk K r (k + 1) ((dd, .agg cs) :: e) (St w0 nowhere L)) : HX1 P n ds ops ev wk K o r k e (St w0 nowhere L) :=
  hx1_read (by rw [ho]; rfl) (by rw [ho]; rfl) hdst hd (fun a w ha hC => by
    have hc : ∀ j v, (E.enc y)[j]? = some v → w.cell? ((⟨g, off + i * E.sz, none⟩ : Addr).add j) = some v := fun j v hj => by
      have e1 : (⟨g, off + i * E.sz, none⟩ : Addr).add j = ⟨g, off + i * E.sz + j, none⟩ := by
        unfold Addr.add
        split
        · rename_i h0; rw [h0]; rfl
        · rfl
      rw [e1]
      exact hC.but.cell (fun h => h) (hr i y hi j v hj)
    subst hcs
    simp [execOp, ho, ha.eval hx, run_loadN hu hna hs (E.len y) hc]) h
/-- len of a slice of its own, nil or not. -/
theorem h_lenV {F0 : Nat → Prop} {T : Nat} {x : Operand} {t el : TypeId} {ats : Array TypeId} {v : Value} (hev : ev k = true) (ho : o.op = .call { callee := .builtin .len, args := #[x], argTypes := ats }) (hp : Pull L (RowV E T v xs) L') (hat : nth ats.toList 0 = some t) (hu : P.underlying t = some (.slice el))
    (hx : e.op x = some v) {dd : Nat} (hdst : o.dst = some dd) (hd : okD n (some dd) = true) (h : HX P n ds ops ev wk K r (k + 1) ((dd, .int .i64 (xs.length : Int)) :: e) (St w0 F0 L)) : HX1 P n ds ops ev wk K o r k e (St w0 F0 L) :=
  hx1_event hev (fun a w ha hC => by
    unfold Oper.wp
    have : (execOp a.eval o).run P w = .ok (.value (.int .i64 (xs.length : Int))) w := by
      rcases St.rowV.1 (hC.perm hp.perm) with ⟨rfl, rfl, _⟩ | ⟨g, cap, rfl, _⟩
      · simp [execOp, ho, resolve, invoke, builtin, Builtin.len_, ha.eval hx, nth_at hat, run_und hu, goInt]
      · simp [execOp, ho, resolve, invoke, builtin, Builtin.len_, ha.eval hx, nth_at hat, run_und hu, goInt]
    rw [this]
    exact ⟨St w0 F0 L, _, hC, fun _ _ h => h, by rw [hdst]; exact ha.put hd _, h⟩)
/-- A function that takes no piece, at one world. -/
theorem reads_of {f : FuncId} {fn : Func} {c : Code} {args : List Value} {w : World} {v : Value} (hf : P.funcs[f]? = some fn) (hb : fn.body = some c) (hn : fn.ntmps = n) (hlen : args.length ≤ n)
    (h : HC P n [] c (bodyPost P fn (bodyR w nowhere (fun u M => u = v ∧ M = []))) (envOf 0 args) (St w nowhere [])) : Calls P f args.toArray w (fun en w' => en = .returned v ∧ But w w' nowhere) := by
  have := spec_at (pre := []) (F := nowhere) hf hb hn hlen trivial h
  refine this.mono ?_
  rintro en w' ⟨u, M, rfl, ⟨rfl, rfl⟩, hst⟩
  exact ⟨rfl, hst.but⟩
end
end Go.Proofs.YtfolhmlldoepfaaGreatDoor
namespace Go.Proofs.YtfolhmlldoepfaaGreatDoor
open Go Go.Proofs Go.RowKit
def cmpV (op : BinOp) (a b : Int) : Option Value := match op with | .eql => some (Value.bool (decide (a = b))) | .neq => some (.bool (decide (a ≠ b))) | .lss => some (.bool (decide (a < b))) | .leq => some (.bool (decide (a ≤ b))) | .gtr => some (.bool (decide (a > b))) | .geq => some (.bool (decide (a ≥ b))) | _ => none
section
variable {P : Program} {n : Nat} {ds : List Deferred} {ops : Array Oper} {ev wk : Nat → Bool} {K : Env → (World → Prop) → Prop} {r : List Oper} {o : Oper} {k : Nat} {e : Env} {C : World → Prop} {Q : Exit → Act → World → Prop} {y : Code} {x : Operand} {v : Value} {dd : Nat}
theorem Zm (hg : o.guard = none) (ho : o.op = .move x) (hx : e.op x = some v) (hdst : o.dst = some dd) (hd : okD n (some dd) = true) (h : HX P n ds ops ev wk K r (k + 1) ((dd, v) :: e) C) : HX P n ds ops ev wk K (o :: r) k e C := hx_plain hg (h_move ho hx hdst hd h)
theorem Za (hg : o.guard = none) (ho : o.op = .assign x) (hx : e.op x = some v) (hdst : o.dst = some dd) (hd : okD n (some dd) = true) (h : HX P n ds ops ev wk K r (k + 1) ((dd, v) :: e) C) : HX P n ds ops ev wk K (o :: r) k e C := hx_plain hg (h_assign ho hx hdst hd h)
theorem Zt (h : HC P n ds y Q e C) : HX P n ds ops ev wk (fun e' C' => HQ n ds (Exit.then (y.wp P Q) Q) .normal e' C') [] k e C := hx_nil (hq_then h)
theorem Zn (hg : o.guard = none) (ho : o.op = .assign x) (hx : e.op x = some v) (hdst : o.dst = some dd) (hd : okD n (some dd) = true) (h : HC P n ds y Q ((dd, v) :: e) C) : HX P n ds ops ev wk (fun e' C' => HQ n ds (Exit.then (y.wp P Q) Q) .normal e' C') [o] k e C := hx_plain hg (h_assign ho hx hdst hd (hx_nil (hq_then h)))
theorem Zl {id : Nat} {l : List Oper} (hg : o.guard = none) (h : HX1 P n ds (o :: l).toArray (fun _ => true) (fun _ => false) (fun e' C' => HQ n ds (Exit.then (y.wp P Q) Q) .normal e' C') o l 0 e C) : HC P n ds (Code.seq (Code.region id (o :: l).toArray false) y) Q e C := hc_seq (hc_lex (hx_plain hg h))
theorem Zf {s f b fo ty : Nat} [hf : FC P s f fo ty] (hg : o.guard = none) (ho : o.op = .fieldAddr s x f) (hx : e.op x = some (.pointer (some ⟨b, 0, none⟩)))
    (hdst : o.dst = some dd) (hd : okD n (some dd) = true) (h : HX P n ds ops ev wk K r (k + 1) ((dd, .pointer (some ⟨b, fo, none⟩)) :: e) C) : HX P n ds ops ev wk K (o :: r) k e C := hx_plain hg (h_fieldAddr0 ho hx hf.out hdst hd h)
theorem Zc {op : BinOp} {t t2 : TypeId} {z : Operand} {q : IntKind} {a b : Int} (hg : o.guard = none) (ho : o.op = .binOp op t x z t2) (hx : e.op x = some (.int q a)) (hy : e.op z = some (.int q b))
    (hv : cmpV op a b = some v)
    (hdst : o.dst = some dd) (hd : okD n (some dd) = true) (h : HX P n ds ops ev wk K r (k + 1) ((dd, v) :: e) C) : HX P n ds ops ev wk K (o :: r) k e C := hx_plain hg (h_cmp ho hx hy (by cases op <;> exact hv) hdst hd h)
theorem Zp {c z : Operand} (hg : o.guard = none) (ho : o.op = .pick c z x) (hc : e.op c = some (.bool false)) (hy : e.op x = some v) (hdst : o.dst = some dd) (hd : okD n (some dd) = true) (h : HX P n ds ops ev wk K r (k + 1) ((dd, v) :: e) C) : HX P n ds ops ev wk K (o :: r) k e C := hx_plain hg (h_pickF ho hc hy hdst hd h)
theorem Zq {c z : Operand} (hg : o.guard = none) (ho : o.op = .pick c x z) (hc : e.op c = some (.bool true)) (hy : e.op x = some v) (hdst : o.dst = some dd) (hd : okD n (some dd) = true) (h : HX P n ds ops ev wk K r (k + 1) ((dd, v) :: e) C) : HX P n ds ops ev wk K (o :: r) k e C := hx_plain hg (h_pickT ho hc hy hdst hd h)
end
end Go.Proofs.YtfolhmlldoepfaaGreatDoor
namespace Go.Proofs.YtfolhmlldoepfaaGreatDoor
open Go Go.Proofs Go.RowKit
section
variable {P : Program} {n : Nat} {ds : List Deferred} {ops : Array Oper} {ev wk : Nat → Bool} {K : Env → (World → Prop) → Prop} {r : List Oper} {o : Oper} {k : Nat} {e : Env} {C : World → Prop} {Q : Exit → Act → World → Prop} {y : Code} {x : Operand} {v : Value} {dd : Nat}
theorem Zw {id : Nat} {l : List Oper} (hg : o.guard = none) (ho : o.op = .move x) (hx : e.op x = some v) (hdst : o.dst = some dd) (hd : okD n (some dd) = true) (h : HX P n ds (o :: l).toArray (fun _ => true) (fun _ => false) (fun e' C' => HQ n ds (Exit.then (y.wp P Q) Q) .normal e' C') l (0 + 1) ((dd, v) :: e) C) : HC P n ds (Code.seq (Code.region id (o :: l).toArray false) y) Q e C := Zl hg (h_move ho hx hdst hd h)
theorem Zv {id : Nat} {l : List Oper} (hg : o.guard = none) (ho : o.op = .assign x) (hx : e.op x = some v) (hdst : o.dst = some dd) (hd : okD n (some dd) = true) (h : HX P n ds (o :: l).toArray (fun _ => true) (fun _ => false) (fun e' C' => HQ n ds (Exit.then (y.wp P Q) Q) .normal e' C') l (0 + 1) ((dd, v) :: e) C) : HC P n ds (Code.seq (Code.region id (o :: l).toArray false) y) Q e C := Zl hg (h_assign ho hx hdst hd h)
theorem Zx {id : Nat} (hg : o.guard = none) (ho : o.op = .assign x) (hx : e.op x = some v) (hdst : o.dst = some dd) (hd : okD n (some dd) = true) (h : HC P n ds y Q ((dd, v) :: e) C) : HC P n ds (Code.seq (Code.region id [o].toArray false) y) Q e C := Zl hg (h_assign ho hx hdst hd (Zt h))
theorem Zh {w0 : World} {F0 : Nat → Prop} {L : List Asn} {t b off : Nat} {cs : Array Value} {bt : TypeId} {fz : Nat × Nat} {d : TypeDesc} [hu : UC P t d] (hg : o.guard = none) (ho : o.op = .load t x) (hx : e.op x = some (.pointer (some ⟨b, off, none⟩))) (hna : aggD d = false)
    (hv : nth cs.toList off = some v) (hdst : o.dst = some dd) (hd : okD n (some dd) = true) (h : HX P n ds ops ev wk K r (k + 1) ((dd, v) :: e) (St w0 F0 (Blk b (.cells cs bt fz) :: L))) : HX P n ds ops ev wk K (o :: r) k e (St w0 F0 (Blk b (.cells cs bt fz) :: L)) := hx_plain hg (h_load ho hx hu.out hna .head hv hdst hd h)
end
end Go.Proofs.YtfolhmlldoepfaaGreatDoor
