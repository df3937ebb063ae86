import Derived.Test.YtfolhmlldoepfaaGreatDoorGa
import Derived.Laws.StructEq
import Derived.ChangeKeysEq
import Derived.Below
import Derived.KernelRfl
import Derived.SizedLaws
import Derived.WalkKit
import Derived.ProofKit
import Derived.OpenShut
import Derived.Deep.SlicePairs
import Derived.Laws.BytesString
import Derived.Laws.MakeOwn
import Derived.Laws.IdiomCopy
import Derived.Lib.ConvBytes
import Derived.Defers
import Derived.Recover
import Derived.Stop.Asserts
namespace Go.Proofs.YtfolhmlldoepfaaGreatDoor
open Go
theorem St.wide {w w' : World} {M : List Asn} (F : Nat → Prop) (h : St w nowhere M w') : St w F M w' :=
  let ⟨G, g1, g2, g3⟩ := h
  ⟨G, g1, ⟨g2.os, g2.tape, g2.output, g2.size, fun k hk _ => g2.blk k hk id⟩, fun b hb => .inr ((g3 b hb).resolve_left id)⟩
section
variable {P : Program} {n : Nat} {ds : List Deferred} {ops : Array Oper} {ev wk : Nat → Bool} {K : Env → (World → Prop) → Prop} {r : List Oper} {o : Oper} {k : Nat} {e : Env} {w0 : World} {F0 : Nat → Prop} {L : List Asn}
theorem h_callW {c : Call} {f : FuncId} {fo : Operand} {vs : List Value} {cap : Array Value} {post : Value → List Asn → Prop} (hev : ev k = true) (hwk : wk k = false) (ho : o.op = .call c) (hc : c.callee = .value fo) (hf : e.op fo = some (.func (.func f) #[] cap)) (hvs : e.ops c.args.toList = some vs)
    {dd : Nat} (hdst : o.dst = some dd) (hd : okD n (some dd) = true) (he : Enters P f)
    (hs : ∀ w, St w0 F0 L w → Calls P f (vs ++ cap.toList).toArray w (fun en w' => ∃ v M, en = .returned v ∧ post v M ∧ St w nowhere M w'))
    (h : ∀ v M, post v M → HX P n ds ops ev wk K r (k + 1) ((dd, v) :: e) (St w0 F0 (M ++ L))) : HX1 P n ds ops ev wk K o r k e (St w0 F0 L) :=
  hx1_event hev (fun a w ha hC => by
    unfold Oper.wp
    rw [run_call he hc (ha.eval hf) (ha.evals hvs) ho]
    have hcall := hs w hC
    have e1 : (vs ++ cap.toList).toArray = vs.toArray ++ cap := by simp
    rw [e1] at hcall
    refine hcall.mono ?_
    rintro en w' ⟨v, M, rfl, hp, hSt⟩
    refine ⟨St w0 F0 (M ++ L), _, ?_, (fun h => by rw [hwk] at h; cases h), (by rw [hdst]; exact ha.put hd v), h v M hp⟩
    exact St.call (pre := []) hC (fun F1 _ => hSt.wide F1))
end
end Go.Proofs.YtfolhmlldoepfaaGreatDoor
namespace Go.Proofs.YtfolhmlldoepfaaGreatDoor
open Go
class KC (P : Program) (t : Nat) : Prop where
  guard : P.eqGuardType P.depth t = false
  out : ∀ (a b : Int) (s u : ByteArray) (w : World), (Op.equal t (.agg #[.int .i64 a, .string s]) (.agg #[.int .i64 b, .string u])).run P w = .ok (decide (a = b) && decide (s = u)) w
section
variable {X : Type} {P : Program} {n : Nat} {ds : List Deferred} {ops : Array Oper} {ev wk : Nat → Bool} {K : Env → (World → Prop) → Prop} {r : List Oper} {o : Oper} {k : Nat} {e : Env} {w0 : World} {F0 : Nat → Prop} {L L' : List Asn} {C : World → Prop} {E : Elem X} {T g cap : Nat} {xs : List X}
end
section
variable {P : Program} {n : Nat} {ds : List Deferred} {ops : Array Oper} {ev wk : Nat → Bool} {K : Env → (World → Prop) → Prop} {r : List Oper} {o : Oper} {k : Nat} {e : Env} {C : World → Prop} {w0 : World} {F0 : Nat → Prop} {L L' : List Asn}
variable {Q : Exit → Act → World → Prop}
end
section
variable {P : Program} {n : Nat} {e : Env} {w0 : World} {F0 : Nat → Prop} {L L' : List Asn}
end
end Go.Proofs.YtfolhmlldoepfaaGreatDoor
namespace Go.Proofs.YtfolhmlldoepfaaGreatDoor
open Go
section
variable {P : Program} {ev wk : Nat → Bool}
def chkO (ops : Array Oper) (ev wk : Nat → Bool) : List Nat → Array Bool → Bool
  | [], listed => (Region.ready .any ops listed).isEmpty
  | i :: ls, listed => okB ops ev wk listed i && chkO ops ev wk ls (listed.setIfInBounds i true)
theorem wpAnyE_txO {ops : Array Oper} {evp wkp : Nat → Bool} {K : Act → (World → Prop) → Prop} (hs : Region.noSelect ops = true) : ∀ (l : List (Nat × Oper)) (q : Nat) (listed : Array Bool) (a : Act) (C : World → Prop), Closed ops listed →
    (∀ j p, l[j]? = some p → ops[p.1]? = some p.2 ∧ evp (q + j) = ev p.1 ∧ wkp (q + j) = wk p.1) →
    chkO ops ev wk (l.map (·.1)) listed = true → TX P ops evp wkp K (l.map (·.2)) q a C → wpAnyE P ops ev wk K l.length listed a C
  | [], _, _, _, _, _, _, hB, h => ⟨by simpa [chkO] using hB, h⟩
  | (k, o) :: l, q, listed, a, C, hcl, hl, hB, h => by
    obtain ⟨h0, q1, q2⟩ := hl 0 (k, o) rfl
    rw [Nat.add_zero] at q1 q2
    dsimp only at h0 q1 q2
    have hl' : ∀ j p, l[j]? = some p → ops[p.1]? = some p.2 ∧ evp (q + 1 + j) = ev p.1 ∧ wkp (q + 1 + j) = wk p.1 := fun j p hj => by
      have := hl (j + 1) p (by simpa using hj)
      rwa [Nat.add_assoc, Nat.add_comm 1 j]
    simp only [List.map_cons, chkO, Bool.and_eq_true] at hB
    obtain ⟨hok, hB'⟩ := hB
    simp only [okB, h0] at hok
    simp only [List.map_cons, TX, q1, q2] at h
    by_cases hek : ev k = true
    · rw [if_pos hek] at hok
      have hrd : Region.ready .any ops listed = [k] := by simpa using hok
      have hkr : k ∈ Region.ready .any ops listed := by rw [hrd]; simp
      refine ⟨fun h0 => (by rw [hrd] at h0; cases h0), fun i hi => ?_⟩
      rw [hrd] at hi
      obtain rfl : i = k := by simpa using hi
      rw [if_pos hek]
      intro w hw
      unfold wpOp
      simp only [h0]
      split
      · rename_i hwant
        rw [if_pos hwant, if_pos hek] at h
        refine .inl (Oper.wp_mono ?_ (h w hw))
        rintro a' w' ⟨C', hC', hwk, ht⟩
        exact ⟨C', hC', hwk, wpAnyE_txO hs l _ _ a' C' (hcl.set hkr) hl' hB' ht⟩
      · rename_i hwant
        rw [if_neg hwant] at h
        exact ⟨C, hw, fun _ _ h => h, wpAnyE_txO hs l _ _ _ C (hcl.set hkr) hl' hB' h⟩
    · rw [if_neg hek] at hok
      simp only [Bool.and_eq_true, List.all_eq_true, List.mem_range, Bool.or_eq_true, Bool.not_eq_true'] at hok
      obtain ⟨⟨hr, hf⟩, hh⟩ := hok
      have hkr : k ∈ Region.ready .any ops listed := by simpa using hr
      have hhold : ∀ j, j < ops.size → listed.getD j true = false → ev j = true → waitsB ops ops.size j k = true ∨ pureB o.op = true ∨ (wk j = true ∧ callB o.op = false) := by
        intro j hj hun hej
        rcases hh j hj with (((h1 | h1) | h1) | h1) | h1
        · rw [hun] at h1; cases h1
        · rw [hej] at h1; cases h1
        · exact .inl h1
        · exact .inr (.inl h1)
        · exact .inr (.inr h1)
      by_cases hwant : Region.wanted o (yielded ops a.tmps) = true
      · rw [if_pos hwant, if_neg hek] at h
        obtain ⟨v, hy, ht⟩ := h
        exact wpAnyE_first h0 (by simpa using hek) (Region.noSelect_spec hs) l.length listed a C hcl (Region.free_spec h0 hf) hhold hkr hy
          (wpAnyE_txO hs l _ _ _ C (hcl.set hkr) hl' hB' ht)
      · rw [if_neg hwant] at h
        refine wpAnyE_first (v := undef) h0 (by simpa using hek) (Region.noSelect_spec hs) l.length listed a C hcl (Region.free_spec h0 hf) hhold hkr ?_
          (wpAnyE_txO hs l _ _ _ C (hcl.set hkr) hl' hB' h)
        have hw0 : Region.wanted o (yielded ops a.tmps) = false := by simpa using hwant
        unfold YldK
        split
        · exact .inr ⟨hw0, rfl⟩
        · split
          · exact .inr ⟨hw0, rfl⟩
          · exact .inr ⟨hw0, rfl⟩
theorem wp_region_txO {id : Nat} {Q : Exit → Act → World → Prop} {a : Act} {w : World} {l : List Oper} {C : World → Prop} (ord : List Nat) (hm : P.follows .mixedOrders = true) (hB : (Region.noSelect l.toArray && (ord.all (fun i => decide (i < l.length)) && chkO l.toArray ev wk ord (Array.replicate l.length false))) = true) (hn : ord.length = l.length) (hC : C { w with drawn := w.drawn + 1 })
    (h : TX P l.toArray (fun k => ev (ord.getD k 0)) (fun k => wk (ord.getD k 0)) (fun a' C' => ∀ w', C' w' → Q .normal a' w') (ord.map fun i => l.getD i default) 0 a C) : (Code.region id l.toArray true).wp P Q a w := by
  simp only [Bool.and_eq_true] at hB
  obtain ⟨hB1, hB2, hB3⟩ := hB
  refine wp_region_any hm (wpAny_of_E (ev := ev) (wk := wk) (K := fun a' C' => ∀ w', C' w' → Q .normal a' w') (fun _ _ w hw h => h w hw) _ _ _ C _ hC ?_)
  have hlen : (ord.map fun i => (i, l.getD i default)).length = l.length := by rw [List.length_map, hn]
  have := wpAnyE_txO (P := P) (ops := l.toArray) (ev := ev) (wk := wk) (evp := fun k => ev (ord.getD k 0)) (wkp := fun k => wk (ord.getD k 0)) hB1 (ord.map fun i => (i, l.getD i default)) 0 (Array.replicate l.toArray.size false) a C (closed_none _ _)
    (fun j p hj => by
      rw [List.getElem?_map] at hj
      cases ho : ord[j]? with
      | none => rw [ho] at hj; cases hj
      | some i =>
        rw [ho] at hj
        injection hj with hj
        subst hj
        have hi : i < l.length := by simpa using List.all_eq_true.1 hB2 i (List.mem_of_getElem? ho)
        have hg : ord.getD (0 + j) 0 = i := by rw [Nat.zero_add, List.getD_eq_getElem?_getD, ho]; rfl
        refine ⟨?_, by show ev (ord.getD (0 + j) 0) = ev i; rw [hg], by show wk (ord.getD (0 + j) 0) = wk i; rw [hg]⟩
        show l.toArray[i]? = some (l.getD i default)
        rw [List.getD_eq_getElem?_getD, List.getElem?_eq_getElem hi]
        simp [hi])
    (by
      rw [List.map_map]
      have : ((fun x : Nat × Oper => x.1) ∘ fun i => (i, l.getD i default)) = _root_.id := rfl
      rw [this, List.map_id]
      simpa using hB3)
    (by rw [List.map_map]; exact h)
  rw [hlen] at this
  simpa using this
end
section
variable {P : Program} {n : Nat} {ds : List Deferred} {Q : Exit → Act → World → Prop} {e : Env} {w0 : World} {F0 : Nat → Prop} {L : List Asn}
theorem tx_convO {ops : Array Oper} {ev wk : Nat → Bool} : ∀ (l' : List Oper) (k : Nat) (a : Act) (C : World → Prop), TX P ops ev wk (fun a' C' => ∃ e', Has n ds a' e' ∧ HQ n ds Q .normal e' C') l' k a C → TX P ops ev wk (fun a' C' => ∀ w', C' w' → Q .normal a' w') l' k a C := by
  intro l' k a C h
  have := tx_conv (P := P) (n := n) (ds := ds) (Q := Q) (l := ops.toList) (ev := ev) (wk := wk) l' k a C
  simp only [Array.toArray_toList] at this
  exact this h
theorem hc_drawO {id : Nat} {l : List Oper} (ord : List Nat) (wk : Nat → Bool) (hm : P.follows .mixedOrders = true) (hB : (Region.noSelect l.toArray && (ord.all (fun i => decide (i < l.length)) && chkO l.toArray (evK l.toArray) wk ord (Array.replicate l.length false))) = true) (hn : ord.length = l.length)
    (h : HX P n ds l.toArray (fun k => evK l.toArray (ord.getD k 0)) (fun k => wk (ord.getD k 0)) (fun e' C' => HQ n ds Q .normal e' C') (ord.map fun i => l.getD i default) 0 e (St w0 F0 L)) : HC P n ds (Code.region id l.toArray true) Q e (St w0 F0 L) := ⟨fun a w ha hC => by
  refine wp_region_txO (ev := evK l.toArray) (wk := wk) (C := St w0 F0 L) ord hm hB hn (hC.same (.drew w _ _)) ?_
  exact tx_convO _ _ _ _ (h.out a ha)⟩
end
section
variable {P : Program} {n : Nat} {ds : List Deferred} {ops : Array Oper} {ev wk : Nat → Bool} {K : Env → (World → Prop) → Prop} {r : List Oper} {o : Oper} {k : Nat} {e : Env} {w0 : World} {F0 : Nat → Prop} {L L' : List Asn}
end
end Go.Proofs.YtfolhmlldoepfaaGreatDoor
namespace Go.Proofs.YtfolhmlldoepfaaGreatDoor
open Go
section
variable {P : Program} {ops : Array Oper} {ev : Nat → Bool}
def wpAnyD (P : Program) (ops : Array Oper) (ev : Nat → Bool) (D : World → Prop) (K : Act → (World → Prop) → Prop) : Nat → Array Bool → Act → (World → Prop) → Prop
  | 0, listed, a, C => Region.ready .any ops listed = [] ∧ K a C
  | fuel + 1, listed, a, C =>
    (Region.ready .any ops listed = [] → K a C) ∧
    ∀ i ∈ Region.ready .any ops listed,
      if ev i then ∀ w, C w → wpOp P ops QN i (fun a' w' => ∃ C' : World → Prop, C' w' ∧ (∀ x, C' x → D x) ∧ wpAnyD P ops ev D K fuel (listed.setIfInBounds i true) a' C') a w
      else qOp P ops C i (fun a' => wpAnyD P ops ev D K fuel (listed.setIfInBounds i true) a' C) a
theorem wpAny_of_D {D : World → Prop} {K : Act → (World → Prop) → Prop} {Q : Exit → Act → World → Prop} (hQ : ∀ a C w, C w → K a C → Q .normal a w) : ∀ (fuel : Nat) (listed : Array Bool) (a : Act) (C : World → Prop) (w : World), C w →
    wpAnyD P ops ev D K fuel listed a C → wpAny P .any ops Q fuel listed a w
  | 0, _, _, _, _, hw, h => ⟨h.1, hQ _ _ _ hw h.2⟩
  | fuel + 1, _, _, C, w, hw, h => by
    refine ⟨fun h0 => hQ _ _ _ hw (h.1 h0), fun i hi => ?_⟩
    have h1 := h.2 i hi
    split at h1
    · exact wpOp_monoQ (wpOp_mono (fun a' w' ⟨C', hC', _, h'⟩ => wpAny_of_D hQ fuel _ a' C' w' hC' h') (h1 w hw))
    · exact wpOp_of_qOp hw (fun a' w' hw' => wpAny_of_D hQ fuel _ a' C w' hw') h1
theorem yldD_toIn {C D : World → Prop} {o : Oper} {v : Value} {a : Act} (hnc : callB o.op = false) (hd : ∀ w, C w → D w) (h : YldK P ops o v a D) : YieldsIn P ops C o v a := by
  unfold YldK at h
  split at h
  · exact yldIf_toIn (fun _ _ => trivial) h
  · split at h
    · rename_i hc; rw [hnc] at hc; cases hc
    · exact yldIf_toIn hd h
theorem wpAnyD_first {D : World → Prop} {K : Act → (World → Prop) → Prop} {i : Nat} {oi : Oper} {v : Value} (hnc : callB oi.op = false) (hi : ops[i]? = some oi) (hev : ev i = false) (hsel : ∀ (j : Nat) (o : Oper) cs b, ops[j]? = some o → o.op ≠ .select cs b) :
    ∀ (fuel : Nat) (listed : Array Bool) (a : Act) (C : World → Prop), Closed ops listed →
      (∀ j oj, ops[j]? = some oj → j ≠ i → listed.getD j true = false → (∀ e ∈ oj.after, Region.binds .any e = true → e.on ≠ i) → oi.apart ops oj = true) →
      (∀ x, C x → D x) →
      i ∈ Region.ready .any ops listed → YldK P ops oi v a D →
      wpAnyD P ops ev D K fuel (listed.setIfInBounds i true) (a.put oi.dst v) C → wpAnyD P ops ev D K (fuel + 1) listed a C := by
  intro fuel
  induction fuel with
  | zero =>
    intro listed a C _ _ hCD hr hy H
    refine ⟨fun h => (by rw [h] at hr; cases hr), fun j hj => ?_⟩
    by_cases hji : j = i
    · subst hji; rw [if_neg (by simp [hev])]; exact (yldD_toIn hnc hCD hy).qOp hi H
    · have := ready_mono hj hji
      rw [H.1] at this
      cases this
  | succ fuel ih =>
    intro listed a C hcl hfree hCD hr hy H
    refine ⟨fun h => (by rw [h] at hr; cases hr), fun j hj => ?_⟩
    by_cases hji : j = i
    · subst hji; rw [if_neg (by simp [hev])]; exact (yldD_toIn hnc hCD hy).qOp hi H
    · have h1 := H.2 j (ready_mono hj hji)
      obtain ⟨hjun, oj, hoj, hall⟩ := mem_ready.1 hj
      have hiun : listed.getD i false = false := by
        have h0 := (mem_ready.1 hr).1
        rcases Nat.lt_or_ge i listed.size with h' | h'
        · simp [h'] at h0 ⊢; exact h0
        · simp [Array.getElem?_eq_none h'] at h0
      have hnot : ∀ e ∈ oj.after, Region.binds .any e = true → e.on ≠ i := fun e he hb heq => by
        have h1 := hall e he hb
        rw [heq, hiun] at h1; cases h1
      have hap := hfree j oj hoj hji hjun hnot
      have hfree' : ∀ k ok, ops[k]? = some ok → k ≠ i → (listed.setIfInBounds j true).getD k true = false →
          (∀ e ∈ ok.after, Region.binds .any e = true → e.on ≠ i) → oi.apart ops ok = true := fun k ok hk hki hun hno => by
        refine hfree k ok hk hki ?_ hno
        by_cases hjk : j = k
        · subst hjk; exact hjun
        · rw [getD_set_ne true hjk] at hun; exact hun
      obtain ⟨ap1, ap2, ap3⟩ := Oper.apart_spec hap
      have keep : ∀ (a : Act) u, YldK P ops oi v a D → YldK P ops oi v (a.put oj.dst u) D := fun a u hy =>
        yldK_same hy (execOp_put oi (fun cs b => hsel i oi cs b hi) a oj.dst u ap3) (wanted_put oi a oj.dst u ap3)
      by_cases hej : ev j = true
      · rw [if_pos hej] at h1 ⊢
        intro w hw
        have h2 := wpOp_putE (Y := fun a' => YldK P ops oi v a' D) hoj hap (fun cs b => hsel j oj cs b hoj) keep (fun a d hy => yldK_same hy rfl rfl) hy (h1 w hw)
        refine wpOp_mono (fun a' w' ⟨hy', C', hC', hD', h3⟩ => ⟨C', hC', hD', ih (listed.setIfInBounds j true) a' C' (hcl.set hj) hfree' hD' (ready_mono hr (Ne.symm hji)) hy' ?_⟩) h2
        rw [Array.setIfInBounds_comm _ _ hji]
        exact h3
      · rw [if_neg hej] at h1 ⊢
        have h2 := qOp_put hoj hap (fun cs b => hsel i oi cs b hi) (fun cs b => hsel j oj cs b hoj) (yldD_toIn hnc hCD hy) h1
        have h2' : qOp P ops C j (fun a' => YldK P ops oi v a' D ∧ wpAnyD P ops ev D K fuel ((listed.setIfInBounds i true).setIfInBounds j true) (a'.put oi.dst v) C) a := by
          unfold qOp at h2 ⊢
          simp only [hoj] at h2 ⊢
          split at h2
          · rename_i hw
            rw [if_pos hw]
            obtain ⟨u, hu, _, hn⟩ := h2
            exact ⟨u, hu, keep a u hy, hn⟩
          · rename_i hw
            rw [if_neg hw]
            exact ⟨keep a _ hy, h2.2⟩
        refine qOp_mono (fun a' h3 => ih (listed.setIfInBounds j true) a' C (hcl.set hj) hfree' hCD (ready_mono hr (Ne.symm hji)) h3.1 ?_) h2'
        rw [Array.setIfInBounds_comm _ _ hji]
        exact h3.2
/-- The walk, reads under D. -/
def TXD (P : Program) (ops : Array Oper) (ev : Nat → Bool) (D : World → Prop) (K : Act → (World → Prop) → Prop) : List (Nat × Oper) → Act → (World → Prop) → Prop
  | [], a, C => K a C
  | (i, o) :: r, a, C =>
    if Region.wanted o (yielded ops a.tmps) = true then
      if ev i = true then ∀ w, C w → o.wp P a w (fun a' w' => ∃ C' : World → Prop, C' w' ∧ (∀ x, C' x → D x) ∧ TXD P ops ev D K r a' C') QN
      else ∃ v, YldK P ops o v a D ∧ TXD P ops ev D K r (a.put o.dst v) C
    else TXD P ops ev D K r (a.put o.dst undef) C
def okDB (ops : Array Oper) (ev : Nat → Bool) (listed : Array Bool) (i : Nat) : Bool :=
  match ops[i]? with
  | none => false
  | some o => if ev i then Region.ready .any ops listed == [i] else (Region.ready .any ops listed).contains i && (Region.free .any ops listed i && !callB o.op)
def chkD (ops : Array Oper) (ev : Nat → Bool) : List Nat → Array Bool → Bool
  | [], listed => (Region.ready .any ops listed).isEmpty
  | i :: ls, listed => okDB ops ev listed i && chkD ops ev ls (listed.setIfInBounds i true)
theorem wpAnyD_tx {D : World → Prop} {K : Act → (World → Prop) → Prop} (hs : Region.noSelect ops = true) : ∀ (l : List (Nat × Oper)) (listed : Array Bool) (a : Act) (C : World → Prop), Closed ops listed → (∀ x, C x → D x) →
    (∀ p ∈ l, ops[p.1]? = some p.2) →
    chkD ops ev (l.map (·.1)) listed = true → TXD P ops ev D K l a C → wpAnyD P ops ev D K l.length listed a C
  | [], _, _, _, _, _, _, hB, h => ⟨by simpa [chkD] using hB, h⟩
  | (k, o) :: l, listed, a, C, hcl, hCD, hl, hB, h => by
    have h0 : ops[k]? = some o := hl (k, o) (List.mem_cons_self ..)
    have hl' : ∀ p ∈ l, ops[p.1]? = some p.2 := fun p hp => hl p (List.mem_cons_of_mem _ hp)
    simp only [List.map_cons, chkD, Bool.and_eq_true] at hB
    obtain ⟨hok, hB'⟩ := hB
    simp only [okDB, h0] at hok
    simp only [TXD] at h
    by_cases hek : ev k = true
    · rw [if_pos hek] at hok
      have hrd : Region.ready .any ops listed = [k] := by simpa using hok
      have hkr : k ∈ Region.ready .any ops listed := by rw [hrd]; simp
      refine ⟨fun h0 => (by rw [hrd] at h0; cases h0), fun i hi => ?_⟩
      rw [hrd] at hi
      obtain rfl : i = k := by simpa using hi
      rw [if_pos hek]
      intro w hw
      unfold wpOp
      simp only [h0]
      split
      · rename_i hwant
        rw [if_pos hwant, if_pos hek] at h
        refine .inl (Oper.wp_mono ?_ (h w hw))
        rintro a' w' ⟨C', hC', hD', ht⟩
        exact ⟨C', hC', hD', wpAnyD_tx hs l _ a' C' (hcl.set hkr) hD' hl' hB' ht⟩
      · rename_i hwant
        rw [if_neg hwant] at h
        exact ⟨C, hw, hCD, wpAnyD_tx hs l _ _ C (hcl.set hkr) hCD hl' hB' h⟩
    · rw [if_neg hek] at hok
      simp only [Bool.and_eq_true, Bool.not_eq_true'] at hok
      obtain ⟨hr, hf, hnc⟩ := hok
      have hkr : k ∈ Region.ready .any ops listed := by simpa using hr
      by_cases hwant : Region.wanted o (yielded ops a.tmps) = true
      · rw [if_pos hwant, if_neg hek] at h
        obtain ⟨v, hy, ht⟩ := h
        exact wpAnyD_first hnc h0 (by simpa using hek) (Region.noSelect_spec hs) l.length listed a C hcl (Region.free_spec h0 hf) hCD hkr hy
          (wpAnyD_tx hs l _ _ C (hcl.set hkr) hCD hl' hB' ht)
      · rw [if_neg hwant] at h
        refine wpAnyD_first (v := undef) hnc h0 (by simpa using hek) (Region.noSelect_spec hs) l.length listed a C hcl (Region.free_spec h0 hf) hCD hkr ?_
          (wpAnyD_tx hs l _ _ C (hcl.set hkr) hCD hl' hB' h)
        have hw0 : Region.wanted o (yielded ops a.tmps) = false := by simpa using hwant
        unfold YldK
        split
        · exact .inr ⟨hw0, rfl⟩
        · split
          · exact .inr ⟨hw0, rfl⟩
          · exact .inr ⟨hw0, rfl⟩
theorem wp_region_txD {id : Nat} {Q : Exit → Act → World → Prop} {a : Act} {w : World} {l : List Oper} {C D : World → Prop} (ord : List Nat) (hm : P.follows .mixedOrders = true) (hB : (Region.noSelect l.toArray && (ord.all (fun i => decide (i < l.length)) && chkD l.toArray ev ord (Array.replicate l.length false))) = true) (hn : ord.length = l.length) (hC : C { w with drawn := w.drawn + 1 }) (hCD : ∀ x, C x → D x)
    (h : TXD P l.toArray ev D (fun a' C' => ∀ w', C' w' → Q .normal a' w') (ord.map fun i => (i, l.getD i default)) a C) : (Code.region id l.toArray true).wp P Q a w := by
  simp only [Bool.and_eq_true] at hB
  obtain ⟨hB1, hB2, hB3⟩ := hB
  refine wp_region_any hm (wpAny_of_D (ev := ev) (D := D) (K := fun a' C' => ∀ w', C' w' → Q .normal a' w') (fun _ _ w hw h => h w hw) _ _ _ C _ hC ?_)
  have hlen : (ord.map fun i => (i, l.getD i default)).length = l.length := by rw [List.length_map, hn]
  have := wpAnyD_tx (P := P) (ops := l.toArray) (ev := ev) hB1 (ord.map fun i => (i, l.getD i default)) (Array.replicate l.toArray.size false) a C (closed_none _ _) hCD
    (fun p hp => by
      obtain ⟨i, hi, rfl⟩ := List.mem_map.1 hp
      have hi' : i < l.length := by simpa using List.all_eq_true.1 hB2 i hi
      show l.toArray[i]? = some (l.getD i default)
      rw [List.getD_eq_getElem?_getD, List.getElem?_eq_getElem hi']
      simp [hi'])
    (by
      rw [List.map_map]
      have : ((fun x : Nat × Oper => x.1) ∘ fun i => (i, l.getD i default)) = _root_.id := rfl
      rw [this, List.map_id]
      simpa using hB3) h
  rw [hlen] at this
  simpa using this
end
end Go.Proofs.YtfolhmlldoepfaaGreatDoor
namespace Go.Proofs.YtfolhmlldoepfaaGreatDoor
open Go
section
variable {P : Program} {ops : Array Oper} {ev : Nat → Bool} {D : World → Prop}
theorem txd_mono {K K' : Act → (World → Prop) → Prop} (hK : ∀ a C, K a C → K' a C) : ∀ (l : List (Nat × Oper)) (a : Act) (C : World → Prop), TXD P ops ev D K l a C → TXD P ops ev D K' l a C
  | [], _, _, h => hK _ _ h
  | (i, o) :: l, a, C, h => by
    simp only [TXD] at h ⊢
    split
    · rename_i hw
      rw [if_pos hw] at h
      split
      · rename_i he
        rw [if_pos he] at h
        exact fun w hC => Oper.wp_mono (fun a' w' ⟨C', h1, h2, h3⟩ => ⟨C', h1, h2, txd_mono hK l a' C' h3⟩) (h w hC)
      · rename_i he
        rw [if_neg he] at h
        obtain ⟨v, h1, h2⟩ := h
        exact ⟨v, h1, txd_mono hK l _ C h2⟩
    · rename_i hw
      rw [if_neg hw] at h
      exact txd_mono hK l _ C h
theorem txd_reads {K K1 : Act → (World → Prop) → Prop} {wk : Nat → Bool} {r : List (Nat × Oper)} {C : World → Prop} (hK : ∀ a, K1 a D → TXD P ops ev D K r a C) : ∀ (l : List (Nat × Oper)) (k : Nat) (a : Act), (∀ p ∈ l, ev p.1 = false) →
    TX P ops (fun _ => false) wk K1 (l.map (·.2)) k a D → TXD P ops ev D K (l ++ r) a C
  | [], _, a, _, h => hK a h
  | (i, o) :: l, k, a, he, h => by
    have he0 : ev i = false := he (i, o) (List.mem_cons_self ..)
    have he' : ∀ p ∈ l, ev p.1 = false := fun p hp => he p (List.mem_cons_of_mem _ hp)
    simp only [List.map_cons, TX] at h
    simp only [List.cons_append, TXD]
    split
    · rename_i hw
      rw [if_pos hw, if_neg (by simp)] at h
      obtain ⟨v, h1, h2⟩ := h
      rw [if_neg (by simp [he0])]
      exact ⟨v, h1, txd_reads hK l (k + 1) _ he' h2⟩
    · rename_i hw
      rw [if_neg hw] at h
      exact txd_reads hK l (k + 1) _ he' h
end
structure HD (P : Program) (n : Nat) (ds : List Deferred) (ops : Array Oper) (ev : Nat → Bool) (D : World → Prop) (K : Env → (World → Prop) → Prop) (r : List (Nat × Oper)) (e : Env) (C : World → Prop) : Prop where
  out : ∀ a, Has n ds a e → TXD P ops ev D (fun a' C' => ∃ e', Has n ds a' e' ∧ K e' C') r a C
section
variable {P : Program} {n : Nat} {ds : List Deferred} {ops : Array Oper} {ev : Nat → Bool} {D : World → Prop} {K : Env → (World → Prop) → Prop} {r : List (Nat × Oper)} {e : Env} {C : World → Prop} {w0 : World} {F0 : Nat → Prop} {L : List Asn}
theorem hd_nil (h : K e C) : HD P n ds ops ev D K [] e C := ⟨fun _ ha => ⟨e, ha, h⟩⟩
/-- First what yields under D. -/
theorem hd_reads (l1 : List (Nat × Oper)) (he : (l1.all fun p => !ev p.1) = true) (h : HX P n ds ops (fun _ => false) (fun _ => false) (fun e' _ => HD P n ds ops ev D K r e' C) (l1.map (·.2)) 0 e D) : HD P n ds ops ev D K (l1 ++ r) e C := ⟨fun a ha =>
  txd_reads (fun a' ⟨_, h1, h2⟩ => h2.out a' h1) l1 0 a (fun p hp => by simpa using List.all_eq_true.1 he p hp) (h.out a ha)⟩
theorem hd_call {i : Nat} {o : Oper} {c : Call} {f : FuncId} {fo : Operand} {vs : List Value} {cap : Array Value} {pre rest : List Asn} {post : Value → List Asn → Prop} (hg : o.guard = none) (hev : ev i = true) (ho : o.op = .call c) (hc : c.callee = .value fo) (hf : e.op fo = some (.func (.func f) #[] cap)) (hvs : e.ops c.args.toList = some vs)
    {dd : Nat} (hdst : o.dst = some dd) (hd : okD n (some dd) = true) (he : Enters P f) (hpu : Pulls L pre rest) (hs : Spec P f (vs ++ cap.toList) pre post)
    (hD : ∀ v M, post v M → ∀ x, St w0 F0 (M ++ rest) x → D x)
    (h : ∀ v M, post v M → HD P n ds ops ev D K r ((dd, v) :: e) (St w0 F0 (M ++ rest))) : HD P n ds ops ev D K ((i, o) :: r) e (St w0 F0 L) := ⟨fun a ha => by
  simp only [TXD]
  rw [if_pos (by simp [Region.wanted, hg]), if_pos hev]
  intro w hC
  have hC' : St w0 F0 (pre ++ rest) w := hC.perm hpu.perm
  unfold Oper.wp
  rw [run_call he hc (ha.eval hf) (ha.evals hvs) ho]
  obtain ⟨F, h1, h2, h3⟩ := hC'
  obtain ⟨F1, F2, s1, s2, s3, s4⟩ := h1.tight.split
  have hcall := hs w F1 s1
  have e1 : (vs ++ cap.toList).toArray = vs.toArray ++ cap := by simp
  rw [e1] at hcall
  refine hcall.mono ?_
  rintro en w' ⟨v, M, rfl, hp, hSt⟩
  refine ⟨St w0 F0 (M ++ rest), ?_, hD v M hp, (h v M hp).out _ (by rw [hdst]; exact ha.put hd v)⟩
  obtain ⟨G, g1, g2, g3⟩ := hSt
  have t2 := s2.tight
  refine ⟨fun b => G b ∨ (F2 b ∧ b < w.heap.size), g1.join (t2.loc fun b hb => g2.blk b hb.2 fun hb1 => s3 b hb1 hb.1) (fun b hb hc => ?_) (fun _ h => h), ⟨g2.os.trans h2.os, g2.tape.trans h2.tape, g2.output.trans h2.output, Nat.le_trans h2.size g2.size, fun k hk hn => ?_⟩, fun b hb => ?_⟩
  · rcases g3 b hb with h | h
    · exact s3 b h hc.1
    · exact absurd hc.2 (by omega)
  · refine (g2.blk k (Nat.lt_of_lt_of_le hk h2.size) fun hk1 => ?_).trans (h2.blk k hk hn)
    rcases h3 k (s4 k (.inl hk1)).1 with h | h
    · exact hn h
    · omega
  · rcases hb with hb | hb
    · rcases g3 b hb with h | h
      · exact h3 b (s4 b (.inl h)).1
      · exact .inr (Nat.le_trans h2.size h)
    · exact h3 b (s4 b (.inr hb.1)).1⟩
variable {Q : Exit → Act → World → Prop}
theorem hd_end (l1 : List (Nat × Oper)) (he : (l1.all fun p => !ev p.1) = true) (h : HX P n ds ops (fun _ => false) (fun _ => false) (fun e' _ => HD P n ds ops ev D K [] e' C) (l1.map (·.2)) 0 e D) : HD P n ds ops ev D K l1 e C := by
  have := hd_reads (C := C) l1 he h
  rwa [List.append_nil] at this
end
end Go.Proofs.YtfolhmlldoepfaaGreatDoor
namespace Go.Proofs.YtfolhmlldoepfaaGreatDoor
open Go
section
variable {X : Type} {f : Nat → X} {k n m i : Nat}
def Seq (f : Nat → X) (k : Nat) : List X := (List.range k).map f
theorem Seq.len : (Seq f k).length = k := by simp [Seq]
theorem Seq.get (h : i < k) : (Seq f k)[i]? = some (f i) := by simp [Seq, h]
theorem Seq.get_some {x : X} (h : (Seq f k)[i]? = some x) : i < k ∧ x = f i := by
  have h1 := (List.getElem?_eq_some_iff.1 h).1
  rw [Seq.len] at h1
  rw [Seq.get h1] at h
  exact ⟨h1, (Option.some.inj h).symm⟩
theorem Seq.succ : Seq f (k + 1) = Seq f k ++ [f k] := by simp [Seq, List.range_succ]
end
variable {X : Type}
theorem enc_len (E : Elem X) : ∀ (l : List X), (l.flatMap E.enc).length = l.length * E.sz := by
  intro l
  induction l with
  | nil => simp
  | cons q l ih => simp [ih, E.len, Nat.add_mul, Nat.add_comm]
theorem enc_of (E : Elem X) : ∀ (l : List X) (j : Nat) (u : Value), (l.flatMap E.enc)[j]? = some u → ∃ i q j', l[i]? = some q ∧ (E.enc q)[j']? = some u ∧ j = i * E.sz + j' := by
  intro l
  induction l with
  | nil => intro j u hj; simp at hj
  | cons q l ih =>
    intro j u hj
    rw [List.flatMap_cons] at hj
    rcases Nat.lt_or_ge j (E.enc q).length with hlt | hge
    · rw [List.getElem?_append_left hlt] at hj
      exact ⟨0, q, j, rfl, hj, by simp⟩
    · rw [List.getElem?_append_right hge] at hj
      obtain ⟨i, q', j', h1, h2, h3⟩ := ih _ _ hj
      refine ⟨i + 1, q', j', h1, h2, ?_⟩
      rw [E.len] at h3 hge
      rw [Nat.add_mul]
      omega
theorem enc_at (E : Elem X) (l : List X) (i : Nat) (q : X) (h : l[i]? = some q) (j : Nat) (u : Value) (hj : (E.enc q)[j]? = some u) : (l.flatMap E.enc)[i * E.sz + j]? = some u := by
  have := flat_row E l i q h j u hj
  simpa using this
theorem add_lit (b off j : Nat) : (⟨b, off, none⟩ : Addr).add j = ⟨b, off + j, none⟩ := by
  unfold Addr.add
  split
  · rename_i h0; rw [h0]; rfl
  · rfl
/-- One piece taken apart: what comes of it is put in its place. -/
theorem St.split1 {w0 : World} {F0 : Nat → Prop} {A : Asn} {rest : List Asn} {w : World} (h : St w0 F0 (A :: rest) w) : ∃ F1, A.p w F1 ∧ ∀ w' post, St w F1 post w' → St w0 F0 (post ++ rest) w' := by
  obtain ⟨F, h1, h2, h3⟩ := h
  obtain ⟨F1, F2, s1, s2, s3, s4⟩ := h1.tight
  refine ⟨F1, s1, fun w' post hg => ?_⟩
  obtain ⟨G, g1, g2, g3⟩ := hg
  have t2 := s2.tight
  refine ⟨fun b => G b ∨ (F2 b ∧ b < w.heap.size), g1.join (t2.loc fun b hb => g2.blk b hb.2 fun hb1 => s3 b hb1 hb.1) (fun b hb hc => ?_) (fun _ h => h), ⟨g2.os.trans h2.os, g2.tape.trans h2.tape, g2.output.trans h2.output, Nat.le_trans h2.size g2.size, fun k hk hn => ?_⟩, fun b hb => ?_⟩
  · rcases g3 b hb with h | h
    · exact s3 b h hc.1
    · exact absurd hc.2 (by omega)
  · refine (g2.blk k (Nat.lt_of_lt_of_le hk h2.size) fun hk1 => ?_).trans (h2.blk k hk hn)
    rcases h3 k (s4 k (.inl hk1)).1 with h | h
    · exact hn h
    · omega
  · rcases hb with hb | hb
    · rcases g3 b hb with h | h
      · exact h3 b (s4 b (.inl h)).1
      · exact .inr (Nat.le_trans h2.size h)
    · exact h3 b (s4 b (.inr hb.1)).1
theorem St.map {w0 : World} {F0 : Nat → Prop} {A B : Asn} {L : List Asn} {w : World} (hm : ∀ F, A.p w F → B.p w F) (h : St w0 F0 (A :: L) w) : St w0 F0 (B :: L) w :=
  let ⟨F, ⟨F1, F2, h1, r⟩, rr⟩ := h; ⟨F, ⟨F1, F2, hm _ h1, r⟩, rr⟩
theorem st_one {w w' : World} {A : Asn} {F G : Nat → Prop} (h : A.p w' G) (hb : But w w' F) (hG : ∀ b, G b → F b ∨ w.heap.size ≤ b) : St w F [A] w' :=
  ⟨G, ⟨G, nowhere, h, trivial, fun _ _ h => h.elim, fun _ h => h.elim id False.elim⟩, hb, hG⟩
theorem Row.at {E : Elem X} {T g cap : Nat} {xs : List X} {w : World} {F : Nat → Prop} (h : (Row E T g cap xs).p w F) : (Row E T g cap xs).p w (fun x => x = g) := ⟨fun _ => Iff.rfl, h.2⟩
/-- Arrays into which the slices 'ents' of so many elements reach: each slice reads as the first ones of f. -/
def Pool (E : Elem X) (T : Nat) (f : Nat → X) (ents : List (Value × Nat)) : Asn where
  p w F := ∃ cf kf : Nat → Nat, (∀ g, F g → (Row E T g (cf g) (Seq f (kf g))).p w (fun x => x = g)) ∧ ∀ q ∈ ents, (q.1 = .slice none 0 0 ∧ q.2 = 0) ∨ ∃ g, F g ∧ q.1 = .slice (some ⟨g, 0, none⟩) q.2 (cf g) ∧ q.2 ≤ kf g
  lt := fun ⟨cf, kf, h, _⟩ b hb => (Row E T b (cf b) (Seq _ (kf b))).lt (h b hb) b rfl
  loc := fun ⟨cf, kf, h, r⟩ hh => ⟨cf, kf, fun g hg => (Row E T g (cf g) (Seq _ (kf g))).loc (h g hg) (fun b hb => by subst hb; exact hh _ hg), r⟩
theorem St.pool {E : Elem X} {T n : Nat} {f : Nat → X} {v : Value} {w0 : World} {F0 : Nat → Prop} {L : List Asn} {w : World} (h : St w0 F0 (RowV E T v (Seq f n) :: L) w) : St w0 F0 (Pool E T f [(v, n)] :: L) w :=
  h.map fun F hp => by
    rcases hp with ⟨rfl, h2, h3⟩ | ⟨g, cap, rfl, h1⟩
    · have : n = 0 := by have := congrArg List.length h2; rwa [Seq.len] at this
      subst this
      exact ⟨fun _ => 0, fun _ => 0, fun g hg => (h3 g hg).elim, fun q hq => by
        rw [List.mem_singleton.1 hq]
        exact .inl ⟨rfl, rfl⟩⟩
    · refine ⟨fun _ => cap, fun _ => n, fun g' hg => ?_, fun q hq => ?_⟩
      · obtain rfl := (h1.1 g').1 hg
        exact Row.at h1
      · rw [List.mem_singleton.1 hq]
        exact .inr ⟨g, (h1.1 g).2 rfl, by rw [Seq.len], Nat.le_refl _⟩
/-- v reads as xs, in blocks of F. -/
def InF (E : Elem X) (w : World) (F : Nat → Prop) (v : Value) (xs : List X) : Prop :=
  ∃ a cap, v = .slice a xs.length cap ∧ xs.length ≤ cap ∧ cap ≤ maxLen ∧ (xs = [] ∨ ∃ g off, F g ∧ a = some ⟨g, off, none⟩ ∧ ∀ i x, xs[i]? = some x → ∀ j u, (E.enc x)[j]? = some u → w.cell? ⟨g, off + i * E.sz + j, none⟩ = some u)
theorem InF.rd {E : Elem X} {w : World} {F : Nat → Prop} {v : Value} {xs : List X} (h : InF E w F v xs) : Rd E w v xs :=
  let ⟨a, cap, h1, h2, h3, h4⟩ := h
  ⟨a, cap, h1, h2, h3, h4.imp id fun ⟨g, off, _, e, hc⟩ => ⟨g, off, e, hc⟩⟩
theorem InF.mono {E : Elem X} {w : World} {F G : Nat → Prop} {v : Value} {xs : List X} (h : InF E w F v xs) (hF : ∀ b, F b → G b) : InF E w G v xs :=
  let ⟨a, cap, h1, h2, h3, h4⟩ := h
  ⟨a, cap, h1, h2, h3, h4.imp id fun ⟨g, off, hg, e, hc⟩ => ⟨g, off, hF g hg, e, hc⟩⟩
/-- The slices 'ents' read so. -/
def Holds (E : Elem X) (ents : List (Value × List X)) : Asn where
  p w F := (∀ q ∈ ents, InF E w F q.1 q.2) ∧ ∀ b, F b → b < w.heap.size
  lt := fun h => h.2
  loc := fun {w w' F} ⟨h1, h2⟩ hh => ⟨fun q hq => by
      obtain ⟨a, cap, g1, g2, g3, g4⟩ := h1 q hq
      refine ⟨a, cap, g1, g2, g3, g4.imp id ?_⟩
      rintro ⟨g, off, hg, e, hc⟩
      refine ⟨g, off, hg, e, fun i x hx j u hu => ?_⟩
      have := hc i x hx j u hu
      unfold World.cell? at this ⊢
      dsimp only at this ⊢
      rw [hh g hg]
      exact this, fun b hb => by
      have e := hh b hb
      rw [Array.getElem?_eq_getElem (h2 b hb)] at e
      exact (Array.getElem?_eq_some_iff.1 e).1⟩
section
variable {E : Elem X} {T : Nat} {f : Nat → X} {w0 : World} {F0 : Nat → Prop} {L L' : List Asn} {w : World}
theorem St.holds_nil (h : St w0 F0 L w) : St w0 F0 (Holds E [] :: L) w := by
  obtain ⟨F, h1, r⟩ := h
  exact ⟨F, ⟨nowhere, F, ⟨(fun q hq => by cases hq), fun _ h => h.elim⟩, h1, fun _ h => h.elim, fun _ h => h.elim False.elim id⟩, r⟩
theorem St.pool_holds {ents : List (Value × Nat)} (h : St w0 F0 (Pool E T f ents :: L) w) : St w0 F0 (Holds E (ents.map fun q => (q.1, Seq f q.2)) :: L) w :=
  h.map fun F hp => by
    refine ⟨fun q hq => ?_, (Pool E T f ents).lt hp⟩
    obtain ⟨cf, kf, h1, h2⟩ := hp
    obtain ⟨q0, hq0, rfl⟩ := List.mem_map.1 hq
    rcases h2 q0 hq0 with ⟨e1, e2⟩ | ⟨g, hg, e1, e2⟩
    · dsimp only
      rw [e1, e2]
      exact ⟨none, 0, rfl, Nat.le_refl _, by decide, .inl rfl⟩
    · obtain ⟨_, cur, hb, h3, h4, h5, h6⟩ := h1 g hg
      rw [Seq.len] at h3
      refine ⟨some ⟨g, 0, none⟩, cf g, by rw [Seq.len]; exact e1, by rw [Seq.len]; omega, h4, .inr ⟨g, 0, hg, rfl, fun i x hx j u hu => ?_⟩⟩
      obtain ⟨hi, rfl⟩ := Seq.get_some hx
      rw [blk_cell hb, Nat.zero_add]
      exact h6 i _ (Seq.get (by omega)) j u hu
theorem St.holds_join {a b : List (Value × List X)} (h : St w0 F0 (Holds E a :: Holds E b :: L) w) : St w0 F0 (Holds E (a ++ b) :: L) w := by
  obtain ⟨F, ⟨F1, F2, h1, ⟨G1, G2, h2, h3, g3, g4⟩, f3, f4⟩, r⟩ := h
  refine ⟨F, ⟨fun x => F1 x ∨ G1 x, G2, ⟨fun q hq => ?_, fun b hb => hb.elim (h1.2 b) (h2.2 b)⟩, h3, fun x hx hg => ?_, fun x hx => ?_⟩, r⟩
  · rcases List.mem_append.1 hq with hq | hq
    · exact (h1.1 q hq).mono fun _ => .inl
    · exact (h2.1 q hq).mono fun _ => .inr
  · rcases hx with hx | hx
    · exact f3 x hx (g4 x (.inr hg))
    · exact g3 x hx hg
  · rcases hx with (hx | hx) | hx
    · exact f4 x (.inl hx)
    · exact f4 x (.inr (g4 x (.inl hx)))
    · exact f4 x (.inr (g4 x (.inr hx)))
theorem St.rdHolds {ents : List (Value × List X)} {v : Value} {xs : List X} (h : St w0 F0 L w) (hp : Pull L (Holds E ents) L') (hm : (v, xs) ∈ ents) : Rd E w v xs := by
  obtain ⟨F, h1, _⟩ := h.get hp
  exact (h1 _ hm).rd
end
section
variable {P : Program} {n : Nat} {ds : List Deferred} {ops : Array Oper} {ev wk : Nat → Bool} {K : Env → (World → Prop) → Prop} {r : List Oper} {o : Oper} {k : Nat} {e : Env} {w0 : World} {F0 : Nat → Prop} {L L' : List Asn} {E : Elem X} {T : Nat}
/-- A load out of a list that was handed out. -/
theorem h_holdLoad {ents : List (Value × List X)} {t g off i j len cap : Nat} {xs : List X} {x : Operand} {d : TypeDesc} {y : X} {v : Value} (ho : o.op = .load t x) (hp : Pull L (Holds E ents) L') (hm : (.slice (some ⟨g, off, none⟩) len cap, xs) ∈ ents) (hx : e.op x = some (.pointer (some ⟨g, off + i * E.sz + j, none⟩))) (hu : P.underlying t = some d) (hna : aggD d = false)
    (hi : xs[i]? = some y) (hv : nth (E.enc y) j = some v) {dd : Nat} (hdst : o.dst = some dd) (hd : okD n (some dd) = true) (h : HX P n ds ops ev wk K r (k + 1) ((dd, v) :: e) (St w0 F0 L)) : HX1 P n ds ops ev wk K o r k e (St w0 F0 L) :=
  hx1_read (by rw [ho]; rfl) (by rw [ho]; rfl) hdst hd (fun a w ha hC => by
    obtain ⟨a0, c0, e1, _, _, h4⟩ := hC.rdHolds hp hm
    injection e1 with e1 _ _
    rcases h4 with h4 | ⟨g', off', e2, hc⟩
    · rw [h4] at hi; cases hi
    · rw [← e1] at e2
      injection e2 with e2
      injection e2 with e2 e3
      subst e2 e3
      simp [execOp, ho, ha.eval hx, run_load1 hu hna (hc i y hi j v (by rw [← nth_eq]; exact hv))]) h
theorem h_holdLoad0 {ents : List (Value × List X)} {t g off i len cap : Nat} {xs : List X} {x : Operand} {d : TypeDesc} {y : X} {v : Value} (ho : o.op = .load t x) (hp : Pull L (Holds E ents) L') (hm : (.slice (some ⟨g, off, none⟩) len cap, xs) ∈ ents) (hx : e.op x = some (.pointer (some ⟨g, off + i * E.sz, none⟩))) (hu : P.underlying t = some d) (hna : aggD d = false)
    (hi : xs[i]? = some y) (hv : nth (E.enc y) 0 = some v) {dd : Nat} (hdst : o.dst = some dd) (hd : okD n (some dd) = true) (h : HX P n ds ops ev wk K r (k + 1) ((dd, v) :: e) (St w0 F0 L)) : HX1 P n ds ops ev wk K o r k e (St w0 F0 L) :=
  h_holdLoad (j := 0) ho hp hm hx hu hna hi hv hdst hd h
/-- What is known of a slice that was handed out. -/
theorem St.hold_shape {ents : List (Value × List X)} {v : Value} {xs : List X} {w : World} (h : St w0 F0 L w) (hp : Pull L (Holds E ents) L') (hm : (v, xs) ∈ ents) : ∃ a cap, v = .slice a xs.length cap ∧ xs.length ≤ cap ∧ cap ≤ maxLen ∧ (xs = [] ∨ ∃ g off, a = some ⟨g, off, none⟩) := by
  obtain ⟨a, cap, h1, h2, h3, h4⟩ := h.rdHolds hp hm
  exact ⟨a, cap, h1, h2, h3, h4.imp id fun ⟨g, off, e, _⟩ => ⟨g, off, e⟩⟩
/-- append(s, ..), s one of the pool, with what f says: one more of the pool. -/
theorem h_poolAppend {f : Nat → X} {ents : List (Value × Nat)} {x y : Operand} {t b l m c by_ : Nat} {zv : Value} {v : Value} {cs : Array Value} {bt : Nat} {fz : Nat × Nat} (hev : ev k = true) (hwk : wk k = false)
    (ho : o.op = .call { callee := .builtin .append, args := #[x, y], argTypes := #[t, t] }) (hx : e.op x = some v) (hy : e.op y = some (.slice (some ⟨b, 0, none⟩) m c)) (hu : P.underlying t = some (.slice T)) (hi : ∃ i, P.info? T = some i ∧ i.size = E.sz ∧ i.bytes = by_ ∧ i.zero = some zv) (hzv : zv.cells.size = E.sz)
    (hp : Pulls L [Pool E T f ents, Blk b (.cells cs bt fz)] L') (hmem : (v, l) ∈ ents) (hm0 : Nat.beq m 0 = false) (hcs : ∀ i, i < m → ∀ j u, (E.enc (f (l + i)))[j]? = some u → cs[i * E.sz + j]? = some u)
    (h63 : l + m ≤ maxLen) (hbytes : (l + m) * by_ ≤ 140737488355328) {dd : Nat} (hdst : o.dst = some dd) (hd : okD n (some dd) = true)
    (h : ∀ v', HX P n ds ops ev wk K r (k + 1) ((dd, v') :: e) (St w0 F0 (Pool E T f (ents ++ [(v', l + m)]) :: Blk b (.cells cs bt fz) :: L'))) : HX1 P n ds ops ev wk K o r k e (St w0 F0 L) :=
  hx1_event hev (fun a w ha hC => by
    have hC' : St w0 F0 (Pool E T f ents :: (Blk b (.cells cs bt fz) :: L')) w := hC.perm hp.perm
    have hblk : w.heap[b]? = some (.cells cs bt fz) := by
      obtain ⟨F, _, hb⟩ := hC'.get (.tail .head)
      exact hb
    obtain ⟨F1, hpool, hput⟩ := hC'.split1
    have hm1 : m ≠ 0 := by intro e0; subst e0; cases hm0
    obtain ⟨i, i1, i2, i3, i4⟩ := hi
    obtain ⟨news, hnews⟩ : ∃ news, news = (Seq (fun i => f (l + i)) m).flatMap E.enc := ⟨_, rfl⟩
    have hnl : news.length = m * E.sz := by rw [hnews, enc_len, Seq.len]
    have hat : ∀ i, i < m → ∀ j u, (E.enc (f (l + i)))[j]? = some u → news[i * E.sz + j]? = some u := fun i hi j u hj => by
      rw [hnews]; exact enc_at E _ i _ (Seq.get hi) j u hj
    have hnc : ∀ j u, news[j]? = some u → w.cell? ((⟨b, 0, none⟩ : Addr).add j) = some u := fun j u hj => by
      rw [hnews] at hj
      obtain ⟨i, q, j', h1, h2, rfl⟩ := enc_of E _ _ _ hj
      obtain ⟨h3, rfl⟩ := Seq.get_some h1
      rw [add_lit, blk_cell hblk, Nat.zero_add]
      exact hcs i h3 j' u h2
    have h1c : ∀ u ∈ news, u.oneCell' = true := fun u hu => by
      rw [hnews] at hu
      obtain ⟨q, _, hq⟩ := List.mem_flatMap.1 hu
      exact E.one q u hq
    suffices hs : ∃ v' w', (Builtin.append_ #[t, t] o.type #[v, .slice (some ⟨b, 0, none⟩) m c]).run P w = .ok v' w' ∧ St w F1 [Pool E T f (ents ++ [(v', l + m)])] w' by
      obtain ⟨v', w', hrun, hst⟩ := hs
      unfold Oper.wp
      have : (execOp a.eval o).run P w = .ok (.value v') w' := by
        simp [execOp, ho, resolve, invoke, builtin, ha.eval hx, ha.eval hy, hrun]
      rw [this]
      exact ⟨_, _, hput w' _ hst, (fun h => by rw [hwk] at h; cases h), by rw [hdst]; exact ha.put hd v', h v'⟩
    have hF1 := (Pool E T f ents).lt hpool
    obtain ⟨cf, kf, hrows, hents⟩ := hpool
    rcases hents _ hmem with ⟨e1, e2⟩ | ⟨g, hg, e1, hle⟩
    · dsimp only at e1 e2
      subst e1 e2
      obtain ⟨v', w', hrun, hown', hgr, hnil⟩ := run_append_own (P := P) (w := w) 0 t o.type T i zv E.sz by_ hu i1 i4 i2 i3 hzv E.pos (.slice none 0 0) 0 [] (World.ownsRow_nil _ _ _ _) ⟨b, 0, none⟩ m c news hnl hnc h1c h63 hbytes (Nat.zero_le _)
      refine ⟨v', w', hrun, ?_⟩
      rw [Nat.zero_add, List.nil_append] at hown'
      have hown2 : w'.ownsRow 0 T E.sz v' (Seq f m).length news := by rw [Seq.len]; exact hown'
      have hrow := RowV.of_owns (E := E) (T := T) (xs := Seq f m) hown2 (fun i q hq j u hj => by
        obtain ⟨h3, rfl⟩ := Seq.get_some hq
        exact hat i h3 j u (by rw [Nat.zero_add]; exact hj))
      have hblk2 := append_block (P := P) hu i1 i4 i2 i3 hzv E.pos (World.ownsRow_nil _ _ _ _) hnl hnc h1c h63 hbytes hrun
      rcases hrow with ⟨e3, _, _⟩ | ⟨g, cap, rfl, hr⟩
      · exact absurd (hnil.1 e3).2 hm1
      · have hnew : w.heap.size ≤ g := by
          rcases hblk2 g rfl with h | h
          · cases h
          · exact h
        have hbut : But w w' nowhere := ⟨hgr.os, hgr.tape, hgr.output, hgr.size, fun j hj _ => hgr.block j hj (fun e => by cases e)⟩
        refine st_one (G := fun x => F1 x ∨ x = g) ?_ ⟨hbut.os, hbut.tape, hbut.output, hbut.size, fun j hj _ => hbut.blk j hj id⟩ (fun x hx => hx.imp id fun e => by omega)
        refine ⟨fun x => if x = g then cap else cf x, fun x => if x = g then m else kf x, fun x hx => ?_, fun q hq => ?_⟩
        · dsimp only
          by_cases hxg : x = g
          · subst hxg
            rw [if_pos rfl, if_pos rfl]
            exact Row.at hr
          · rw [if_neg hxg, if_neg hxg]
            have hxF := hx.resolve_right hxg
            exact (Row E T x (cf x) (Seq f (kf x))).loc (hrows x hxF) (fun y hy => by subst hy; exact hbut.blk y (hF1 y hxF) id)
        · rcases List.mem_append.1 hq with hq | hq
          · refine (hents q hq).imp id ?_
            rintro ⟨g', h1, h2, h3⟩
            have hne : g' ≠ g := fun e0 => by have := hF1 g' h1; omega
            exact ⟨g', .inl h1, by dsimp only; rw [if_neg hne]; exact h2, by dsimp only; rw [if_neg hne]; exact h3⟩
          · rw [List.mem_singleton.1 hq]
            refine .inr ⟨g, .inr rfl, ?_, ?_⟩
            · dsimp only; rw [if_pos rfl, Seq.len, Nat.zero_add]
            · dsimp only; rw [if_pos rfl]; omega
    · dsimp only at e1 hle
      obtain ⟨_, cur, hb, h3, h4, h5, h6⟩ := id (hrows g hg)
      rw [Seq.len] at h3
      subst e1
      have hgs := hF1 g hg
      by_cases hroom : l + m ≤ cf g
      · have hfit : l * i.size + news.length ≤ cur.size := by rw [hnl, i2, h5, ← Nat.add_mul]; exact Nat.mul_le_mul_right _ hroom
        have hrun := run_append_room (P := P) w t o.type T i hu i1 g l (cf g) cur hb ⟨b, 0, none⟩ m c news (by rw [hnl, i2]) hnc h1c hroom hfit
        refine ⟨_, _, hrun, ?_⟩
        have hcur : cur.toList.length = cf g * E.sz := by simpa using h5
        have hll : l * E.sz + m * E.sz ≤ cf g * E.sz := by rw [← Nat.add_mul]; exact Nat.mul_le_mul_right _ hroom
        refine st_one (G := F1) ?_ ⟨rfl, rfl, rfl, by simp, fun j hj hn => setRow_other _ _ _ _ (fun e0 => hn (by rw [e0]; exact hg))⟩ (fun x hx => .inl hx)
        refine ⟨cf, fun x => if x = g then max (kf g) (l + m) else kf x, fun x hx => ?_, fun q hq => ?_⟩
        · dsimp only
          by_cases hxg : x = g
          · subst hxg
            rw [if_pos rfl]
            refine ⟨fun _ => Iff.rfl, _, setRow_heap _ _ _ _ _ _ hb, by rw [Seq.len]; omega, h4, ?_, fun i' q hq j u hj => ?_⟩
            · simp only [List.size_toArray, List.length_append, List.length_take, List.length_drop, hnl, i2, hcur]
              omega
            · obtain ⟨hi', rfl⟩ := Seq.get_some hq
              have hjs : j < E.sz := by
                have := (List.getElem?_eq_some_iff.1 hj).1
                rwa [E.len] at this
              simp only [List.getElem?_toArray, i2]
              rw [List.append_assoc]
              have htl : (cur.toList.take (l * E.sz)).length = l * E.sz := by rw [List.length_take, hcur]; omega
              by_cases c1 : i' < l
              · have := row_lt (sz := E.sz) c1 hjs
                rw [List.getElem?_append_left (by rw [htl]; exact this), List.getElem?_take_of_lt this]
                simpa using h6 i' _ (Seq.get (by omega)) j u hj
              · rw [List.getElem?_append_right (by rw [htl]; have := Nat.mul_le_mul_right E.sz (Nat.le_of_not_lt c1); omega), htl]
                obtain ⟨d, rfl⟩ := Nat.exists_eq_add_of_le (Nat.le_of_not_lt c1)
                rw [show (l + d) * E.sz + j - l * E.sz = d * E.sz + j by rw [Nat.add_mul]; omega]
                by_cases c2 : d < m
                · rw [List.getElem?_append_left (by rw [hnl]; exact row_lt c2 hjs)]
                  exact hat d c2 j u hj
                · have hmd := Nat.mul_le_mul_right E.sz (Nat.le_of_not_lt c2)
                  rw [List.getElem?_append_right (by rw [hnl]; omega), hnl, List.getElem?_drop]
                  rw [show l * E.sz + m * E.sz + (d * E.sz + j - m * E.sz) = (l + d) * E.sz + j by rw [Nat.add_mul]; omega]
                  simpa using h6 (l + d) _ (Seq.get (by omega)) j u hj
          · rw [if_neg hxg]
            exact (Row E T x (cf x) (Seq f (kf x))).loc (hrows x hx) (fun y hy => by subst hy; exact setRow_other _ _ _ _ hxg)
        · rcases List.mem_append.1 hq with hq | hq
          · refine (hents q hq).imp id ?_
            rintro ⟨g', h1, h2, h3⟩
            refine ⟨g', h1, h2, ?_⟩
            dsimp only
            split
            · rename_i e0
              subst e0
              omega
            · exact h3
          · rw [List.mem_singleton.1 hq]
            exact .inr ⟨g, hg, rfl, by dsimp only; rw [if_pos rfl]; omega⟩
      · obtain ⟨olds, hold⟩ : ∃ olds, olds = (Seq f l).flatMap E.enc := ⟨_, rfl⟩
        have hol : olds.length = l * E.sz := by rw [hold, enc_len, Seq.len]
        have holds : ∀ j u, olds[j]? = some u → w.cell? ((⟨g, 0, none⟩ : Addr).add j) = some u := fun j u hj => by
          rw [hold] at hj
          obtain ⟨i', q, j', g1, g2, rfl⟩ := enc_of E _ _ _ hj
          obtain ⟨g3, rfl⟩ := Seq.get_some g1
          rw [add_lit, blk_cell hb, Nat.zero_add]
          exact h6 i' _ (Seq.get (by omega)) j' u g2
        have hr := run_append_grow (P := P) w t o.type T i zv hu i1 i4 ⟨g, 0, none⟩ l (cf g) olds (by rw [hol, i2]) holds ⟨b, 0, none⟩ m c news (by rw [hnl, i2]) hnc (by omega) (by simp only [maxLen] at h63; omega) (growslice_fits (by omega) (by rw [i3]; exact hbytes))
        refine ⟨_, _, hr, ?_⟩
        have hbut : But w (w.drew.alloc (.cells (olds.toArray ++ news.toArray ++ Builtin.zeroCells zv.cells (grownCap w (l + m) (cf g) T - (l + m))) T)) nowhere := ⟨rfl, rfl, rfl, by simp, fun j hj _ => heap_alloc_old w.drew _ hj⟩
        have hge := grownCap_ge w (l + m) (cf g) T
        have hcm := grownCap_le_maxLen w (l + m) (cf g) T h63
        refine st_one (G := fun x => F1 x ∨ x = w.heap.size) ?_ ⟨hbut.os, hbut.tape, hbut.output, hbut.size, fun j hj _ => hbut.blk j hj id⟩ (fun x hx => hx.imp id fun e => by omega)
        refine ⟨fun x => if x = w.heap.size then grownCap w (l + m) (cf g) T else cf x, fun x => if x = w.heap.size then l + m else kf x, fun x hx => ?_, fun q hq => ?_⟩
        · dsimp only
          by_cases hxg : x = w.heap.size
          · subst hxg
            rw [if_pos rfl, if_pos rfl]
            refine ⟨fun _ => Iff.rfl, _, heap_alloc_new w.drew _, by rw [Seq.len]; exact hge, hcm, ?_, fun i' q hq j u hj => ?_⟩
            · simp only [Array.size_append, List.size_toArray, size_zeroCells, hzv, hol, hnl, ← Nat.add_mul]
              congr 1
              omega
            · obtain ⟨hi', rfl⟩ := Seq.get_some hq
              have hjs : j < E.sz := by
                have := (List.getElem?_eq_some_iff.1 hj).1
                rwa [E.len] at this
              have hlt : i' * E.sz + j < olds.length + news.length := by rw [hol, hnl, ← Nat.add_mul]; exact row_lt hi' hjs
              rw [Array.getElem?_append_left (by simpa using hlt)]
              rw [show olds.toArray ++ news.toArray = (olds ++ news).toArray by simp, List.getElem?_toArray]
              by_cases c1 : i' < l
              · rw [List.getElem?_append_left (by rw [hol]; exact row_lt c1 hjs), hold]
                exact enc_at E _ i' _ (Seq.get c1) j u hj
              · obtain ⟨d, rfl⟩ := Nat.exists_eq_add_of_le (Nat.le_of_not_lt c1)
                rw [List.getElem?_append_right (by rw [hol, Nat.add_mul]; omega), hol, show (l + d) * E.sz + j - l * E.sz = d * E.sz + j by rw [Nat.add_mul]; omega]
                exact hat d (by omega) j u hj
          · rw [if_neg hxg, if_neg hxg]
            have hxF := hx.resolve_right hxg
            exact (Row E T x (cf x) (Seq f (kf x))).loc (hrows x hxF) (fun y hy => by subst hy; exact hbut.blk y (hF1 y hxF) id)
        · rcases List.mem_append.1 hq with hq | hq
          · refine (hents q hq).imp id ?_
            rintro ⟨g', h1, h2, h3⟩
            have hne : g' ≠ w.heap.size := fun e0 => by have := hF1 g' h1; omega
            exact ⟨g', .inl h1, by dsimp only; rw [if_neg hne]; exact h2, by dsimp only; rw [if_neg hne]; exact h3⟩
          · rw [List.mem_singleton.1 hq]
            refine .inr ⟨w.heap.size, .inr rfl, ?_, ?_⟩
            · dsimp only; rw [if_pos rfl]
            · dsimp only; rw [if_pos rfl]; exact Nat.le_refl _)
theorem St.pool_sub {E : Elem X} {T : Nat} {f : Nat → X} {ents ents' : List (Value × Nat)} {w0 : World} {F0 : Nat → Prop} {L : List Asn} {w : World} (hs : ∀ q ∈ ents', q ∈ ents) (h : St w0 F0 (Pool E T f ents :: L) w) : St w0 F0 (Pool E T f ents' :: L) w :=
  h.map (A := Pool E T f ents) (B := Pool E T f ents') fun F hp => by
    obtain ⟨cf, kf, h1, h2⟩ := hp
    exact ⟨cf, kf, h1, fun q hq => h2 q (hs q hq)⟩
section
variable {P : Program} {n : Nat} {ds : List Deferred} {ops : Array Oper} {ev wk : Nat → Bool} {K : Env → (World → Prop) → Prop} {r : List Oper} {o : Oper} {k : Nat} {e : Env} {w0 : World} {F0 : Nat → Prop} {L L' : List Asn} {E : Elem X} {T g cap : Nat} {xs : List X}
/-- An element of one cell. -/
theorem h_rowLoad1 {t i : Nat} {x : Operand} {d : TypeDesc} {y : X} {v : Value} (ho : o.op = .load t x) (hp : Pull L (Row E T g cap xs) L') (hx : e.op x = some (.pointer (some ⟨g, i * E.sz, none⟩))) (hu : P.underlying t = some d) (hna : aggD d = false)
    (hi : xs[i]? = some y) (hv : nth (E.enc y) 0 = some v) {dd : Nat} (hdst : o.dst = some dd) (hd : okD n (some dd) = true) (h : HX P n ds ops ev wk K r (k + 1) ((dd, v) :: e) (St w0 F0 L)) : HX1 P n ds ops ev wk K o r k e (St w0 F0 L) :=
  h_rowLoad (j := 0) ho hp hx hu hna hi hv hdst hd h
end
theorem hq_know {n : Nat} {ds : List Deferred} {Q : Exit → Act → World → Prop} {x : Exit} {e : Env} {C : World → Prop} {φ : Prop} (hk : ∀ w, C w → φ) (h : φ → HQ n ds Q x e C) : HQ n ds Q x e C := ⟨fun a w ha hC => (h (hk w hC)).out a w ha hC⟩
/-- A slice as an element. -/
structure SlV where
  a : Option Addr
  len : Nat
  cap : Nat
def SlV.v (s : SlV) : Value := .slice s.a s.len s.cap
def slE : Elem SlV where
  sz := 1
  pos := by decide
  enc s := [s.v]
  len _ := rfl
  one s v hv := by
    simp at hv
    subst hv
    rfl
end
end Go.Proofs.YtfolhmlldoepfaaGreatDoor
namespace Go.Proofs.YtfolhmlldoepfaaGreatDoor
open Go Go.Proofs Go.ChangeShapes Go.WideShapes Go.ChangeAt Go.RowKit
section
variable {X : Type} {H : Type} {enc : TypeId × Value → H} {P : Program} {W : World} {base : Nat} {spare : Nat → Bool} {held : Bool} {t e : TypeId} {v : Value} {d : DataW H} {ps : List MemPlace} {r : Reach} {b0 : Nat}
/-- The reader of a slice that is handed in: what it reads as, and its data element by element. -/
theorem rd_gen (E : Elem X) (hu : P.underlying t = some (.slice e)) (ce : P.cellsOf e = E.sz) (hval : Value.okWide P W r b0 t v) (h : DataW.Trod enc P W base spare held t v d ps)
    (read : ∀ n cs x, DataW.trod enc P W base spare held n e cs = some x → ∃ q, E.enc q = cs) :
    ∃ xs : List X, Rd E W v xs ∧ ((d = .nil ∧ xs = []) ∨ ∃ (D : Nat → DataW H) (rest : List (DataW H)), d = .slice ((List.range xs.length).map D) rest ∧ ∀ i q, xs[i]? = some q → ∃ n pl, DataW.trod enc P W base spare held n e (E.enc q) = some (D i, pl)) := by
  obtain ⟨a, len, cap, rfl⟩ := okWide_slice hu hval
  obtain ⟨fuel, hf⟩ := h
  rcases Go.Deep.open_slice hu hf with ⟨hcs, hx⟩ | ⟨x, l, c, m, n, D, Pl, hcs, _, hl, hm, hmm, hx, hc⟩
  · simp [Value.cells] at hcs
    obtain ⟨rfl, rfl, rfl⟩ := hcs
    exact ⟨[], ⟨none, 0, rfl, Nat.le_refl _, by decide, .inl rfl⟩, .inl ⟨(Prod.mk.inj hx).1, rfl⟩⟩
  · simp [Value.cells] at hcs
    obtain ⟨rfl, rfl, rfl⟩ := hcs
    have hlm : len ≤ m := by rw [hmm]; split <;> omega
    obtain ⟨hx1, _⟩ := Prod.mk.inj hx
    have each : ∀ i : Fin len, ∃ q : X, (∀ j u, (E.enc q)[j]? = some u → W.cell? ((x.add (i.1 * E.sz)).add j) = some u) ∧ DataW.trod enc P W base spare held n e (E.enc q) = some (D i.1, Pl i.1) := fun i => by
      obtain ⟨cs', h1, h2⟩ := hc i.1 (by omega)
      obtain ⟨q, rfl⟩ := read _ _ _ h2
      rw [ce] at h1
      obtain ⟨_, hlen, hcell⟩ := World.cells?_some h1
      refine ⟨q, fun j u hj => ?_, h2⟩
      have hj' : j < E.sz := by
        have := (List.getElem?_eq_some_iff.1 hj).1
        rwa [E.len] at this
      have := hcell j hj'
      rw [this, hj]
    obtain ⟨q, hq⟩ := Classical.axiomOfChoice each
    by_cases h0 : len = 0
    · subst h0
      refine ⟨[], ⟨some x, cap, rfl, Nat.zero_le _, hm, .inl rfl⟩, .inr ⟨D, _, hx1, fun i q hq => by simp at hq⟩⟩
    · obtain ⟨g, off, sp⟩ := x
      have hsp : sp = none := by
        obtain ⟨z, hz⟩ : ∃ z : Fin len, z.1 = 0 := ⟨⟨0, Nat.pos_of_ne_zero h0⟩, rfl⟩
        obtain ⟨h1, _⟩ := hq z
        cases sp with
        | none => rfl
        | some s =>
          have hpos : 0 < (E.enc (q z)).length := by rw [E.len]; exact E.pos
          have h2 := h1 0 _ (List.getElem?_eq_getElem hpos)
          rw [hz, Nat.zero_mul] at h2
          simp [Addr.add, World.cell?] at h2
          split at h2 <;> cases h2
      subst hsp
      have hln : (List.ofFn q).length = len := List.length_ofFn
      refine ⟨List.ofFn q, ⟨some ⟨g, off, none⟩, cap, by rw [hln], by rw [hln]; exact hl, hm, .inr ⟨g, off, rfl, fun i p hi j u hj => ?_⟩⟩, .inr ⟨D, _, by rw [hln]; exact hx1, fun i p hi => ?_⟩⟩
      · rw [List.getElem?_ofFn] at hi
        split at hi
        · rename_i hlt
          injection hi with hi
          subst hi
          have := (hq ⟨i, hlt⟩).1 j u hj
          rwa [add_lit, add_lit] at this
        · cases hi
      · rw [List.getElem?_ofFn] at hi
        split at hi
        · rename_i hlt
          injection hi with hi
          subst hi
          exact ⟨_, _, (hq ⟨i, hlt⟩).2⟩
        · cases hi
end
end Go.Proofs.YtfolhmlldoepfaaGreatDoor
namespace Go.Proofs.YtfolhmlldoepfaaGreatDoor
open Go
def byteE : Elem Int where
  sz := 1
  pos := by decide
  enc t := [.int .u8 t]
  len _ := rfl
  one t v hv := by
    simp at hv
    subst hv
    rfl
section
variable {X : Type} {P : Program} {n : Nat} {ds : List Deferred} {ops : Array Oper} {ev wk : Nat → Bool} {K : Env → (World → Prop) → Prop} {r : List Oper} {o : Oper} {k : Nat} {e : Env} {C : World → Prop} {w0 : World} {F0 : Nat → Prop} {L L' : List Asn} {E : Elem X} {T g cap : Nat} {xs : List X}
theorem h_shr {t t2 : TypeId} {x y : Operand} {q q2 : IntKind} {a b : Int} (ho : o.op = .binOp .shr t x y t2) (hx : e.op x = some (.int q a)) (hy : e.op y = some (.int q2 b)) (hb : 0 ≤ b ∧ b ≤ q.bits)
    {dd : Nat} (hdst : o.dst = some dd) (hd : okD n (some dd) = true) (h : HX P n ds ops ev wk K r (k + 1) ((dd, .int q (a / 2 ^ b.toNat)) :: e) C) : HX1 P n ds ops ev wk K o r k e C :=
  hx1_pure (by rw [ho]; rfl) hdst hd (fun a' w ha => by
    simp [execOp, ho, eqGuard, binOp, ha.eval hx, ha.eval hy, shift_shr q q2 a b hb.1 hb.2]) h
theorem h_shl {t t2 : TypeId} {x y : Operand} {q q2 : IntKind} {a b : Int} (ho : o.op = .binOp .shl t x y t2) (hx : e.op x = some (.int q a)) (hy : e.op y = some (.int q2 b)) (hb : 0 ≤ b ∧ b ≤ q.bits)
    {dd : Nat} (hdst : o.dst = some dd) (hd : okD n (some dd) = true) (h : HX P n ds ops ev wk K r (k + 1) ((dd, .int q (q.wrap (a * 2 ^ b.toNat))) :: e) C) : HX1 P n ds ops ev wk K o r k e C :=
  hx1_pure (by rw [ho]; rfl) hdst hd (fun a' w ha => by
    simp [execOp, ho, eqGuard, binOp, ha.eval hx, ha.eval hy, shift_shl q q2 a b hb.1 hb.2]) h
theorem h_bits {op : BinOp} {t t2 : TypeId} {x y : Operand} {q : IntKind} {a b : Int} {v : Value} (ho : o.op = .binOp op t x y t2) (hx : e.op x = some (.int q a)) (hy : e.op y = some (.int q b))
    (hv : (match op with | .xor => some (Value.int q (bits .xor q a b)) | .or => some (.int q (bits .or q a b)) | .and => some (.int q (bits .and q a b)) | _ => none) = some v)
    {dd : Nat} (hdst : o.dst = some dd) (hd : okD n (some dd) = true) (h : HX P n ds ops ev wk K r (k + 1) ((dd, v) :: e) C) : HX1 P n ds ops ev wk K o r k e C :=
  hx1_pure (by rw [ho]; rfl) hdst hd (fun a' w ha => by
    cases op <;> simp at hv <;> subst hv <;> simp [execOp, ho, eqGuard, binOp, ha.eval hx, ha.eval hy, intBits_xor, intBits_or, intBits_and]) h
/-- The place of an element of an array in memory. -/
theorem h_indexAddrA {t el len b off sz : Nat} {x y : Operand} {q : IntKind} {i : Int} (ho : o.op = .indexAddr t x y) (hx : e.op x = some (.pointer (some ⟨b, off, none⟩))) (hy : e.op y = some (.int q i)) (hu : P.underlying t = some (.array len el)) (hs : SizeOf P el sz)
    (h0 : 0 ≤ i ∧ i < len) {dd : Nat} (hdst : o.dst = some dd) (hd : okD n (some dd) = true) (h : HX P n ds ops ev wk K r (k + 1) ((dd, .pointer (some ⟨b, off + i.toNat * sz, none⟩)) :: e) C) : HX1 P n ds ops ev wk K o r k e C :=
  hx1_pure (by rw [ho]; rfl) hdst hd (fun a w ha => by
    have e1 : (⟨b, off, none⟩ : Addr).add (i.toNat * sz) = ⟨b, off + i.toNat * sz, none⟩ := add_lit _ _ _
    simp [execOp, ho, ha.eval hx, ha.eval hy, Instr.indexAt, asIntOf, run_und hu, h0.1, h0.2, run_size hs, Instr.sureAddr, e1]) h
/-- Several cells of a block are loaded. -/
theorem h_loadP {t b off s : Nat} {x : Operand} {cs cs' : Array Value} {bt : TypeId} {fz : Nat × Nat} {d : TypeDesc} (ho : o.op = .load t x) (hx : e.op x = some (.pointer (some ⟨b, off, none⟩))) (hu : P.underlying t = some d) (hna : aggD d = true) (hs : SizeOf P t s)
    (hp : Pull L (Blk b (.cells cs bt fz)) L') (hl : Nat.ble (off + s) cs.toList.length = true) (hcs : ((cs.toList.drop off).take s).toArray = cs') {dd : Nat} (hdst : o.dst = some dd) (hd : okD n (some dd) = true) (h : HX P n ds ops ev wk K r (k + 1) ((dd, .agg cs') :: e) (St w0 F0 L)) : HX1 P n ds ops ev wk K o r k e (St w0 F0 L) := by
  have hl' := Nat.le_of_ble_eq_true hl
  subst hcs
  exact h_loadN (vs := (cs.toList.drop off).take s) ho hx hu hna hs hp (by rw [List.length_take, List.length_drop]; omega) (fun j v hj => by
    have hjs : j < s := by
      have := (List.getElem?_eq_some_iff.1 hj).1
      rw [List.length_take] at this
      omega
    rw [List.getElem?_take_of_lt hjs, List.getElem?_drop] at hj
    simpa using hj) hdst hd h
/-- make([]T, l, c). -/
theorem h_makeSlice (E : Elem X) {t T by_ : Nat} {x y : Operand} {kl kc : IntKind} {l c : Nat} {zv : Value} (z : X) (hev : ev k = true) (ho : o.op = .makeSlice t x y) (hx : e.op x = some (.int kl (l : Int))) (hy : e.op y = some (.int kc (c : Int))) (hu : P.underlying t = some (.slice T)) (hi : ∃ i, P.info? T = some i ∧ i.size = E.sz ∧ i.bytes = by_ ∧ i.zero = some zv) (hz : zv.cells.toList = E.enc z)
    (hlc : l ≤ c) (hm : c ≤ maxLen) (hbytes : by_ * c ≤ 140737488355328) {dd : Nat} (hdst : o.dst = some dd) (hd : okD n (some dd) = true)
    (h : ∀ b, HX P n ds ops ev wk K r (k + 1) ((dd, .slice (some ⟨b, 0, none⟩) l c) :: e) (St w0 F0 (Row E T b c (List.replicate l z) :: L))) : HX1 P n ds ops ev wk K o r k e (St w0 F0 L) :=
  hx1_event hev (fun a w ha hC => by
    obtain ⟨i, i1, i2, i3, i4⟩ := hi
    have hb' : (i.bytes : Int) * (c : Int) ≤ 281474976710656 := by
      have h1 : ((i.bytes * c : Nat) : Int) ≤ 281474976710656 := by rw [i3]; omega
      rwa [Int.natCast_mul] at h1
    have h63' : (c : Int) ≤ 9223372036854775807 := by simp only [maxLen] at hm; omega
    have hr := run_make (P := P) w t T i zv hu i1 i4 kl kc (l : Int) (c : Int) (by omega) (by omega) hb' h63'
    simp only [Int.toNat_natCast] at hr
    unfold Oper.wp
    have : (execOp a.eval o).run P w = .ok (.value (.slice (some ⟨w.heap.size, 0, none⟩) l c)) (w.alloc (.cells (madeCells zv.cells (c * i.size)) T)) := by
      simp [execOp, ho, ha.eval hx, ha.eval hy, hr]
    rw [this]
    refine ⟨_, _, ?_, fun _ _ hh => hh.drop, (by rw [hdst]; exact ha.put hd _), h _⟩
    refine (hC.new _).map (A := Blk w.heap.size (.cells (madeCells zv.cells (c * i.size)) T (0, 0))) (B := Row E T w.heap.size c (List.replicate l z)) fun F hp => ?_
    obtain ⟨p1, p2⟩ := hp
    refine ⟨p1, _, p2, by simpa using hlc, hm, by rw [size_madeCells, i2], fun j q hq jj u hj => ?_⟩
    have hjl : j < l := by
      have := (List.getElem?_eq_some_iff.1 hq).1
      simpa using this
    have hqz : q = z := by
      rw [List.getElem?_replicate, if_pos hjl] at hq
      exact (Option.some.inj hq).symm
    subst hqz
    have hjs : jj < E.sz := by
      have := (List.getElem?_eq_some_iff.1 hj).1
      rwa [E.len] at this
    have hzs : zv.cells.size = E.sz := by rw [← E.len q, ← hz]; simp
    have hlt : j * E.sz + jj < c * i.size := by rw [i2]; exact row_lt (by omega) hjs
    have hmod : (j * E.sz + jj) % E.sz = jj := by rw [Nat.mul_comm, Nat.mul_add_mod, Nat.mod_eq_of_lt hjs]
    rw [← hz] at hj
    simp only [madeCells, Array.getElem?_map, Array.getElem?_range, hlt, if_true, Option.map_some, hzs, hmod]
    have : zv.cells[jj]? = some u := by simpa using hj
    simp [getElem!_def, this])
/-- copy(d, s) of bytes, d an array of its own. -/
theorem h_copy {g cap T sT : Nat} {x y : Operand} {t : Nat} {v : Value} {xs ys : List Int} (hev : ev k = true) (hwk : wk k = false) (ho : o.op = .call { callee := .builtin .copy, args := #[x, y], argTypes := #[t, sT] }) (hp : Pull L (Row byteE T g cap xs) L') (hx : e.op x = some (.slice (some ⟨g, 0, none⟩) xs.length cap)) (hy : e.op y = some v) (hu : P.underlying t = some (.slice T)) (hs : SizeOf P T 1)
    (hr : ∀ w, St w0 F0 L w → Rd byteE w v ys) {dd : Nat} (hdst : o.dst = some dd) (hd : okD n (some dd) = true)
    (h : HX P n ds ops ev wk K r (k + 1) ((dd, .int .i64 ((min ys.length xs.length : Nat) : Int)) :: e) (St w0 F0 (Row byteE T g cap (ys.take xs.length ++ xs.drop ys.length) :: L'))) : HX1 P n ds ops ev wk K o r k e (St w0 F0 L) :=
  hx1_event hev (fun a w ha hC => by
    obtain ⟨ya, yc, rfl, y1, y2, y3⟩ := hr w hC
    have hC' := hC.perm hp.perm
    have hs' : (P.info? T).map (·.size) = some 1 := by
      obtain ⟨i, h1, h2⟩ := hs
      rw [h1]; simp [h2]
    by_cases h0 : Nat.min ys.length xs.length = 0
    · have hrun := run_copy_none (P := P) w t sT o.type T (some ⟨g, 0, none⟩) ya xs.length cap ys.length yc hu hs' h0
      have : (execOp a.eval o).run P w = .ok (.value (goInt 0)) w := by
        simp [execOp, ho, resolve, invoke, builtin, ha.eval hx, ha.eval hy, hrun]
      unfold Oper.wp
      rw [this]
      refine ⟨_, _, ?_, (fun h => by rw [hwk] at h; cases h), (by rw [hdst]; exact ha.put hd _), (by
        have hm : min ys.length xs.length = 0 := h0
        rw [hm] at h
        exact h)⟩
      have e1 : ys.take xs.length ++ xs.drop ys.length = xs := by
        have : min ys.length xs.length = 0 := h0
        rcases Nat.eq_zero_or_pos ys.length with e | e
        · have : ys = [] := List.eq_nil_of_length_eq_zero e
          subst this
          simp
        · have : xs = [] := List.eq_nil_of_length_eq_zero (by omega)
          subst this
          simp
      rw [e1]
      exact hC'
    · have hy0 : ys ≠ [] := fun e => h0 (by subst e; simp)
      obtain ⟨g2, off2, rfl, hc⟩ := y3.resolve_left hy0
      obtain ⟨F1, hrow, hput⟩ := hC'.split1
      obtain ⟨h1, cur, hb, h3, h4, h5, h6⟩ := id hrow
      have h5' : cur.size = cap := by rw [h5]; exact Nat.mul_one _
      obtain ⟨cs, hcs⟩ : ∃ cs, cs = (ys.take xs.length).map (Value.int .u8) := ⟨_, rfl⟩
      have hcl : cs.length = Nat.min ys.length xs.length := by rw [hcs, List.length_map, List.length_take]; exact Nat.min_comm _ _
      have hcl' : cs.length ≤ xs.length := by rw [hcl]; exact Nat.min_le_right _ _
      have hrun := run_copy_row (P := P) w t sT o.type T g 0 xs.length cap ⟨g2, off2, none⟩ ys.length yc cur T cs hu hs' hb hcl (fun j u hj => by
        rw [hcs, List.getElem?_map] at hj
        cases hq : (ys.take xs.length)[j]? with
        | none => rw [hq] at hj; cases hj
        | some q =>
          rw [hq] at hj
          injection hj with hj
          subst hj
          rw [add_lit]
          have hq' : ys[j]? = some q := by
            rw [List.getElem?_take] at hq
            split at hq
            · exact hq
            · cases hq
          have := hc j q hq' 0 (.int .u8 q) rfl
          simpa [byteE] using this) (by omega) (fun u hu => by
        rw [hcs] at hu
        obtain ⟨q, _, rfl⟩ := List.mem_map.1 hu
        rfl)
      have : (execOp a.eval o).run P w = .ok (.value (goInt cs.length)) (w.setRow g (cur.toList.take 0 ++ cs ++ cur.toList.drop (0 + cs.length)).toArray) := by
        simp [execOp, ho, resolve, invoke, builtin, ha.eval hx, ha.eval hy, hrun]
      unfold Oper.wp
      rw [this]
      refine ⟨_, _, hput _ [Row byteE T g cap (ys.take xs.length ++ xs.drop ys.length)] ?_, (fun h => by rw [hwk] at h; cases h), (by rw [hdst]; exact ha.put hd _), (by
        have e2 : goInt cs.length = .int .i64 ((min ys.length xs.length : Nat) : Int) := by rw [hcl]; rfl
        rw [e2]
        exact h)⟩
      refine st_one (G := fun x => x = g) ?_ ⟨rfl, rfl, rfl, by simp, fun j hj hn => setRow_other _ _ _ _ (fun e0 => hn (by rw [e0]; exact (h1 g).2 rfl))⟩ (fun x hx => .inl ((h1 x).2 hx))
      refine ⟨fun _ => Iff.rfl, _, setRow_heap _ _ _ _ _ _ hb, ?_, h4, ?_, fun j q hq jj u hj => ?_⟩
      · rw [List.length_append, List.length_take, List.length_drop]; omega
      · simp only [List.size_toArray, List.length_append, List.length_take, List.length_drop, Array.length_toList, h5']
        show _ = cap * 1
        omega
      · have hjj : jj = 0 := by
          have := (List.getElem?_eq_some_iff.1 hj).1
          have h2 : (byteE.enc q).length = 1 := rfl
          omega
        subst hjj
        have hu' : u = .int .u8 q := by simpa [byteE] using hj.symm
        subst hu'
        show (cur.toList.take 0 ++ cs ++ cur.toList.drop (0 + cs.length)).toArray[j * 1 + 0]? = _
        simp only [List.take_zero, List.nil_append, Nat.mul_one, Nat.add_zero, Nat.zero_add, List.getElem?_toArray]
        rcases Nat.lt_or_ge j cs.length with hlt | hge
        · rw [List.getElem?_append_left hlt, hcs, List.getElem?_map]
          rw [List.getElem?_append_left (by rw [hcs, List.length_map] at hlt; exact hlt)] at hq
          rw [hq]
          rfl
        · rw [List.getElem?_append_right hge, List.getElem?_drop]
          have htl : (ys.take xs.length).length = cs.length := by rw [hcs, List.length_map]
          rw [List.getElem?_append_right (by rw [htl]; exact hge), htl, List.getElem?_drop] at hq
          have hlen2 : ys.length ≤ xs.length ∨ xs.length < ys.length := by omega
          have hjx : xs[j]? = some q := by
            rw [← hq]
            congr 1
            have hcl2 : cs.length = min ys.length xs.length := hcl
            rcases hlen2 with h2 | h2
            · omega
            · exfalso
              have := (List.getElem?_eq_some_iff.1 hq).1
              omega
          have := h6 j q hjx 0 (.int .u8 q) rfl
          have e3 : cs.length + (j - cs.length) = j := by omega
          rw [e3]
          simpa [byteE] using this)
/-- string(b). -/
def strOf (ns : List Int) : ByteArray := ns.foldl (fun r n => r.push (UInt8.ofNat n.toNat)) ByteArray.empty
theorem h_toString {src dst el : TypeId} {x : Operand} {v : Value} {xs : List Int} (ho : o.op = .convert src dst x) (hx : e.op x = some v) (hu : P.underlying src = some (.slice el)) (hu2 : P.underlying dst = some .string) (hu3 : P.underlying el = some (.int .u8))
    (hr : ∀ w, C w → Rd byteE w v xs)
    {dd : Nat} (hdst : o.dst = some dd) (hd : okD n (some dd) = true) (h : HX P n ds ops ev wk K r (k + 1) ((dd, .string (strOf xs)) :: e) C) : HX1 P n ds ops ev wk K o r k e C :=
  hx1_read (by rw [ho]; rfl) (by rw [ho]; rfl) hdst hd (fun a w ha hC => by
    obtain ⟨ya, yc, rfl, y1, y2, y3⟩ := hr w hC
    have key : (Conv.bytesToString (.slice ya xs.length yc)).run P w = .ok (.string (strOf xs)) w := by
      cases ya with
      | none =>
        have : xs = [] := by
          rcases y3 with h | ⟨g, off, h, _⟩
          · exact h
          · cases h
        subst this
        rfl
      | some a0 =>
        refine run_bytesToString w a0 xs.length yc xs ?_
        have := run_loadCells_list (P := P) w a0 (xs.map (Value.int .u8)) (fun j u hj => by
          rw [List.getElem?_map] at hj
          cases hq : xs[j]? with
          | none => rw [hq] at hj; cases hj
          | some q =>
            rw [hq] at hj
            injection hj with hj
            subst hj
            rcases y3 with h | ⟨g, off, h, hc⟩
            · subst h; cases hq
            · injection h with h
              subst h
              rw [add_lit]
              have := hc j q hq 0 (.int .u8 q) rfl
              simpa [byteE] using this)
        simpa using this
    simp [execOp, ho, ha.eval hx, convert, run_und hu, run_und hu2, run_und hu3, key]) h
/-- A conversion that only marks an array. -/
theorem h_convMark {t el b len cap : Nat} {x : Operand} {cs : Array Value} {bt : TypeId} (hev : ev k = true) (hwk : wk k = false) (ho : o.op = .convert t t x) (hx : e.op x = some (.slice (some ⟨b, 0, none⟩) len cap)) (hu : P.underlying t = some (.slice el)) (hu3 : P.underlying el = some (.int .u8))
    (hp : Pull L (Blk b (.cells cs bt (0, 0))) L') {dd : Nat} (hdst : o.dst = some dd) (hd : okD n (some dd) = true)
    (h : ∀ fz, HX P n ds ops ev wk K r (k + 1) ((dd, .slice (some ⟨b, 0, none⟩) len cap) :: e) (St w0 F0 (Blk b (.cells cs bt fz) :: L'))) : HX1 P n ds ops ev wk K o r k e (St w0 F0 L) :=
  hx1_event hev (fun a w ha hC => by
    have hC' := hC.perm hp.perm
    have hb := hC'.blk
    have hsh : w.shape? b = some (bt, cs.size) := by simp [World.shape?, hb]
    have hrun : (execOp a.eval o).run P w = .ok (.value (.slice (some ⟨b, 0, none⟩) len cap)) (w.freeze ⟨b, cs.size, none⟩ 1) := by
      simp [execOp, ho, ha.eval hx, convert, run_und hu, run_und hu3, markStringish, hsh, Result.andThen]
    unfold Oper.wp
    rw [hrun]
    refine ⟨_, _, hC'.put (o' := .cells cs bt (cs.size, cs.size + 1)) ⟨rfl, rfl, rfl, by simp [World.freeze], fun j hj hn => by
      show (w.heap.modify b _)[j]? = _
      rw [Array.getElem?_modify, if_neg (fun h => hn h.symm)]⟩ ?_, (fun h => by rw [hwk] at h; cases h), (by rw [hdst]; exact ha.put hd _), h _⟩
    simp [World.freeze, Array.getElem?_modify, hb])
end
end Go.Proofs.YtfolhmlldoepfaaGreatDoor
namespace Go.Proofs.YtfolhmlldoepfaaGreatDoor
open Go
def ints (xs : List Int) : Array Value := (xs.map (Value.int .i64)).toArray
theorem ints_get {xs : List Int} {i : Nat} {x : Int} (h : xs[i]? = some x) : (ints xs)[i]? = some (.int .i64 x) := by simp [ints, h]
/-- Fields of one int each, from the place k on. -/
def IntFields (P : Program) : Nat → List Field → Prop
  | _, [] => True
  | k, f :: fs => f.name ≠ "_" ∧ f.offset = k ∧ P.underlying f.type = some (.int .i64) ∧ IntFields P (k + 1) fs
theorem eqFields_ints {P : Program} {w : World} {d : Nat} {gs : List Field} {xs ys : List Int} : ∀ (fs : List Field) (k : Nat), IntFields P k fs → k + fs.length ≤ xs.length → k + fs.length ≤ ys.length →
    (Op.eqFields (d + 1) (ints xs) (ints ys) (fs ++ gs)).run P w = if (xs.drop k).take fs.length = (ys.drop k).take fs.length then (Op.eqFields (d + 1) (ints xs) (ints ys) gs).run P w else .ok false w
  | [], _, _, _, _ => by simp
  | f :: fs, k, ⟨h1, h2, h3, h4⟩, hx, hy => by
    simp only [List.length_cons] at hx hy
    have ex : xs[k]? = some xs[k] := List.getElem?_eq_getElem (by omega)
    have ey : ys[k]? = some ys[k] := List.getElem?_eq_getElem (by omega)
    have p0 : P.plainKey f.type = true := by simp [Program.plainKey, h3]
    have r1 : (part f.type (ints xs) f.offset).run P w = .ok (.int .i64 xs[k]) w := run_part_plain w p0 (by rw [h2]; exact ints_get ex)
    have r2 : (part f.type (ints ys) f.offset).run P w = .ok (.int .i64 ys[k]) w := run_part_plain w p0 (by rw [h2]; exact ints_get ey)
    have r3 := run_equalIn_int (P := P) w d f.type .i64 .i64 xs[k] ys[k] h3
    have ih := eqFields_ints (w := w) (d := d) (gs := gs) (xs := xs) (ys := ys) fs (k + 1) h4 (by omega) (by omega)
    have dx : (xs.drop k).take (fs.length + 1) = xs[k] :: (xs.drop (k + 1)).take fs.length := by rw [List.drop_eq_getElem_cons (by omega), List.take_succ_cons]
    have dy : (ys.drop k).take (fs.length + 1) = ys[k] :: (ys.drop (k + 1)).take fs.length := by rw [List.drop_eq_getElem_cons (by omega), List.take_succ_cons]
    rw [List.cons_append]
    simp only [Op.eqFields, h1, ne_eq, not_false_eq_true, if_true, Sem.run_bind, r1, r2, r3, Result.andThen_ok, List.length_cons, dx, dy]
    by_cases he : xs[k] = ys[k]
    · simp [he, ih]
    · simp [he]
/-- A struct type whose n cells are ints. -/
class QC (P : Program) (t n : Nat) : Prop where
  guard : P.eqGuardType P.depth t = false
  out : ∀ (xs ys : List Int) (w : World), xs.length = n → ys.length = n → (Op.equalIn 10000 t (.agg (ints xs)) (.agg (ints ys))).run P w = .ok (decide (xs = ys)) w
theorem QC.flat {P : Program} {t n : Nat} (hg : P.eqGuardType P.depth t = false) (hu : P.underlying t = some (.struct (P.fieldsOf t))) (hp : P.stoodInHeld t = false) (hn : (P.fieldsOf t).toList.length = n) (hf : IntFields P 0 (P.fieldsOf t).toList) : QC P t n := ⟨hg, fun xs ys w hx hy => by
  rw [run_equalIn_struct w 9999 t _ _ hu hp]
  have := eqFields_ints (w := w) (d := 9998) (gs := []) (xs := xs) (ys := ys) _ 0 hf (by omega) (by omega)
  rw [List.append_nil] at this
  rw [this, List.drop_zero, List.drop_zero, hn, List.take_of_length_le (by omega), List.take_of_length_le (by omega)]
  by_cases h : xs = ys <;> simp [h, Op.eqFields]⟩
section
variable {P : Program} {n : Nat} {ds : List Deferred} {ops : Array Oper} {ev wk : Nat → Bool} {K : Env → (World → Prop) → Prop} {r : List Oper} {o : Oper} {k : Nat} {e : Env} {C : World → Prop} {w0 : World} {F0 : Nat → Prop} {L L' : List Asn}
theorem h_eqS {op : BinOp} {t t2 m : Nat} {x y : Operand} {u1 u2 : Array Value} {v : Value} (xs ys : List Int) (ho : o.op = .binOp op t x y t2) (hx : e.op x = some (.agg u1)) (hy : e.op y = some (.agg u2)) (h1 : u1 = ints xs) (h2 : u2 = ints ys) (hq : QC P t m) (hl1 : Nat.beq xs.length m = true) (hl2 : Nat.beq ys.length m = true)
    (hv : (match op with | .eql => some (Value.bool (decide (xs = ys))) | .neq => some (.bool (decide (xs ≠ ys))) | _ => none) = some v)
    {dd : Nat} (hdst : o.dst = some dd) (hd : okD n (some dd) = true) (h : HX P n ds ops ev wk K r (k + 1) ((dd, v) :: e) C) : HX1 P n ds ops ev wk K o r k e C :=
  hx1_pure (by rw [ho]; rfl) hdst hd (fun a' w ha => by
    subst h1 h2
    have hout := hq.out xs ys w (Nat.eq_of_beq_eq_true hl1) (Nat.eq_of_beq_eq_true hl2)
    cases op <;> simp at hv <;> subst hv
    · simp only [execOp, ho, ha.eval hx, ha.eval hy, Sem.run_bind, run_eqGuard_agg w _ _ _ _ _ _ hq.guard, Result.andThen_ok, run_eql_struct, hout]
      rfl
    · simp only [execOp, ho, ha.eval hx, ha.eval hy, Sem.run_bind, run_eqGuard_agg w _ _ _ _ _ _ hq.guard, Result.andThen_ok, run_neq_struct, hout]
      by_cases h : xs = ys <;> simp [h]) h
/-- nil == nil, of an interface without methods. -/
theorem h_eqIface {t t2 : TypeId} {x : Operand} (ho : o.op = .binOp .eql t x (.const .nilIface) t2) (hx : e.op x = some .nilIface) (hu : P.underlying t = some (.interface #[]))
    {dd : Nat} (hdst : o.dst = some dd) (hd : okD n (some dd) = true) (h : HX P n ds ops ev wk K r (k + 1) ((dd, .bool true) :: e) C) : HX1 P n ds ops ev wk K o r k e C :=
  hx1_pure (by rw [ho]; rfl) hdst hd (fun a' w ha => by
    have e1 : (Op.equal t .nilIface .nilIface).run P w = .ok true w := by
      show Sem.run P (Op.equalIn (9999 + 1) t _ _) w = _
      rw [Op.equalIn]
      simp [run_und hu]
    have hy : a'.eval (.const .nilIface) = .nilIface := rfl
    simp [execOp, ho, eqGuard, binOp, ha.eval hx, hy, e1]) h
end
def RVal (P : Program) (e : Env) (L : List Asn) : ResultVar → Value → Prop
  | .tmp t, v => e.get t = some v
  | .cell t ty, v => ∃ (b : Nat) (cs : Array Value) (bt : TypeId) (fz : Nat × Nat) (L' : List Asn) (d : TypeDesc), e.get t = some (.pointer (some ⟨b, 0, none⟩)) ∧ Pull L (Blk b (.cells cs bt fz)) L' ∧ P.underlying ty = some d ∧ ((aggD d = true ∧ SizeOf P ty cs.size ∧ v = .agg cs) ∨ (aggD d = false ∧ cs = #[v]))
section
variable {P : Program} {n : Nat} {e : Env} {w0 : World} {F0 : Nat → Prop} {L L' : List Asn} {ds : List Deferred}
theorem rv_tmp {t : Nat} {v : Value} (h : e.get t = some v) : RVal P e L (.tmp t) v := h
theorem rv_cell {t ty b : Nat} {cs : Array Value} {bt : TypeId} {fz : Nat × Nat} {d : TypeDesc} (h : e.get t = some (.pointer (some ⟨b, 0, none⟩))) (hp : Pull L (Blk b (.cells cs bt fz)) L') (hu : P.underlying ty = some d) (hna : aggD d = true) (hs : SizeOf P ty cs.size) : RVal P e L (.cell t ty) (.agg cs) :=
  ⟨b, cs, bt, fz, L', d, h, hp, hu, .inl ⟨hna, hs, rfl⟩⟩
theorem rv_run {x : ResultVar} {v : Value} (h : RVal P e L x v) {a : Act} {w : World} (ha : Has n ds a e) (hC : St w0 F0 L w) :
    (match x with | .tmp t => Sem.run P (pure (a.tmps.getD t undef)) w | .cell t ty => Sem.run P (do loadVar ty (← asAddr (a.tmps.getD t undef))) w) = .ok v w := by
  cases x with
  | tmp t => simp [ha.get _ _ h]
  | cell t ty =>
    obtain ⟨b, cs, bt, fz, L', d, h1, hp, hu, hh⟩ := h
    obtain ⟨F, _, hb⟩ := hC.get hp
    rcases hh with ⟨hna, hs, rfl⟩ | ⟨hna, rfl⟩
    · have := run_loadN (P := P) (w := w) (a := ⟨b, 0, none⟩) (vs := cs.toList) hu hna hs (by simp) (fun j v hj => by
        rw [add_lit, blk_cell hb, Nat.zero_add]
        simpa using hj)
      simpa [ha.get _ _ h1, asAddr, Instr.loadAt, Instr.sureAddr] using this
    · have := run_load1 (P := P) (w := w) (a := ⟨b, 0, none⟩) (v := v) hu hna (by rw [blk_cell hb]; rfl)
      simpa [ha.get _ _ h1, asAddr, Instr.loadAt, Instr.sureAddr] using this
end
def rrv (tmps : Array Value) : ResultVar → Sem Value
  | .tmp t => pure (tmps.getD t undef)
  | .cell a t => do loadVar t (← asAddr (tmps.getD a undef))
theorem results_eq (fn : Func) (tmps : Array Value) : results fn tmps = (do
  let vs ← fn.results.mapM (rrv tmps)
  pure (if h : vs.size = 1 then vs[0] else .tuple vs)) := rfl
theorem rrv_run {P : Program} {n : Nat} {e : Env} {w0 : World} {F0 : Nat → Prop} {L : List Asn} {ds : List Deferred} {x : ResultVar} {v : Value} (h : RVal P e L x v) {a : Act} {w : World} (ha : Has n ds a e) (hC : St w0 F0 L w) : (rrv a.tmps x).run P w = .ok v w := by
  have := rv_run h ha hC
  cases x <;> exact this
section
variable {P : Program} {n : Nat} {ds : List Deferred} {Q : Exit → Act → World → Prop} {e : Env} {C : World → Prop} {w0 : World} {F0 : Nat → Prop} {L L' : List Asn}
theorem results1 {fn : Func} {x1 : ResultVar} {v1 : Value} (hr : fn.results = #[x1]) (h1 : RVal P e L x1 v1) {a : Act} {w : World} (ha : Has n ds a e) (hC : St w0 F0 L w) : (results fn a.tmps).run P w = .ok v1 w := by
  have r1 := rrv_run h1 ha hC
  rw [results_eq, hr]
  simp [r1]
theorem results2 {fn : Func} {x1 x2 : ResultVar} {v1 v2 : Value} (hr : fn.results = #[x1, x2]) (h1 : RVal P e L x1 v1) (h2 : RVal P e L x2 v2) {a : Act} {w : World} (ha : Has n ds a e) (hC : St w0 F0 L w) : (results fn a.tmps).run P w = .ok (.tuple #[v1, v2]) w := by
  have r1 := rrv_run h1 ha hC
  have r2 := rrv_run h2 ha hC
  rw [results_eq, hr]
  simp [r1, r2]
theorem hq_R1 {fn : Func} {x : Exit} {x1 : ResultVar} {v1 : Value} {post : Value → List Asn → Prop} {M : List Asn} (hx : x = .normal ∨ x = .ret) (hr : fn.results = #[x1]) (h1 : RVal P e L x1 v1) (hp : post v1 M) (hst : ∀ w, St w0 F0 L w → St w0 F0 M w) :
    HQ n [] (bodyPost P fn (bodyR w0 F0 post)) x e (St w0 F0 L) := ⟨fun a w ha hC => by
  have hrun := results1 hr h1 ha hC
  have : bodyR w0 F0 post (.returned v1) w := ⟨_, M, rfl, hp, hst w hC⟩
  rcases hx with rfl | rfl
  · exact ⟨ha.defers, _, hrun, this⟩
  · exact ⟨ha.defers, _, hrun, this⟩⟩
theorem hq_R2 {fn : Func} {x : Exit} {x1 x2 : ResultVar} {v1 v2 : Value} {post : Value → List Asn → Prop} {M : List Asn} (hx : x = .normal ∨ x = .ret) (hr : fn.results = #[x1, x2]) (h1 : RVal P e L x1 v1) (h2 : RVal P e L x2 v2) (hp : post (.tuple #[v1, v2]) M) (hst : ∀ w, St w0 F0 L w → St w0 F0 M w) :
    HQ n [] (bodyPost P fn (bodyR w0 F0 post)) x e (St w0 F0 L) := ⟨fun a w ha hC => by
  have hrun := results2 hr h1 h2 ha hC
  have : bodyR w0 F0 post (.returned (.tuple #[v1, v2])) w := ⟨_, M, rfl, hp, hst w hC⟩
  rcases hx with rfl | rfl
  · exact ⟨ha.defers, _, hrun, this⟩
  · exact ⟨ha.defers, _, hrun, this⟩⟩
theorem tx_append {ops : Array Oper} {ev wk : Nat → Bool} {K : Act → (World → Prop) → Prop} {l2 : List Oper} : ∀ (l1 : List Oper) (k : Nat) (a : Act) (C : World → Prop), TX P ops ev wk (fun a' C' => TX P ops ev wk K l2 (k + l1.length) a' C') l1 k a C → TX P ops ev wk K (l1 ++ l2) k a C
  | [], _, _, _, h => h
  | o :: l1, k, a, C, h => by
    have e1 : k + (o :: l1).length = k + 1 + l1.length := by rw [List.length_cons]; omega
    simp only [TX, e1] at h
    simp only [List.cons_append, TX]
    split
    · rename_i hw
      rw [if_pos hw] at h
      split
      · rename_i hev
        rw [if_pos hev] at h
        exact fun w hC => Oper.wp_mono (fun a' w' ⟨C', h1, h2, h3⟩ => ⟨C', h1, h2, tx_append l1 (k + 1) a' C' h3⟩) (h w hC)
      · rename_i hev
        rw [if_neg hev] at h
        obtain ⟨v, h1, h2⟩ := h
        exact ⟨v, h1, tx_append l1 (k + 1) _ C h2⟩
    · rename_i hw
      rw [if_neg hw] at h
      exact tx_append l1 (k + 1) _ C h
theorem tx_mono {ops : Array Oper} {ev wk : Nat → Bool} {K K' : Act → (World → Prop) → Prop} (hK : ∀ a C, K a C → K' a C) : ∀ (l : List Oper) (k : Nat) (a : Act) (C : World → Prop), TX P ops ev wk K l k a C → TX P ops ev wk K' l k a C
  | [], _, _, _, h => hK _ _ h
  | o :: l, k, a, C, h => by
    simp only [TX] at h ⊢
    split
    · rename_i hw
      rw [if_pos hw] at h
      split
      · rename_i he
        rw [if_pos he] at h
        exact fun w hC => Oper.wp_mono (fun a' w' ⟨C', h1, h2, h3⟩ => ⟨C', h1, h2, tx_mono hK l _ a' C' h3⟩) (h w hC)
      · rename_i he
        rw [if_neg he] at h
        obtain ⟨v, h1, h2⟩ := h
        exact ⟨v, h1, tx_mono hK l _ _ C h2⟩
    · rename_i hw
      rw [if_neg hw] at h
      exact tx_mono hK l _ _ C h
/-- The deferred call of f with vs. -/
def defOf (f : FuncId) (cap : Array Value) (vs : List Value) : Deferred := { target := .fn (.func f) cap, args := vs.toArray }
/-- A region that ends with a deferred call. -/
theorem hc_defer {id : Nat} {l1 : List Oper} {o : Oper} {c : Call} {f : FuncId} {fo : Operand} (ho : o.op = .defer c) (hg : o.guard = none) (hdst : o.dst = none) (hc : c.callee = .value fo)
    (h : HX P n ds (l1 ++ [o]).toArray (fun _ => true) (fun _ => false) (fun e' C' => ∃ vs cap, e'.op fo = some (.func (.func f) #[] cap) ∧ e'.ops c.args.toList = some vs ∧ HQ n (defOf f cap vs :: ds) Q .normal e' C') l1 0 e C) :
    HC P n ds (Code.region id (l1 ++ [o]).toArray false) Q e C := ⟨fun a w ha hC => by
  refine wp_region_tx0 (ev := fun _ => true) (wk := fun _ => false) (C := C) hC ?_
  refine tx_append l1 0 a C (tx_mono ?_ l1 0 a C (h.out a ha))
  rintro a' C' ⟨e', h1, vs, cap, h2, h3, h4⟩
  simp only [TX]
  rw [if_pos (by simp [Region.wanted, hg]), if_pos trivial]
  intro w' hw'
  have e1 : c.args.map a'.eval = vs.toArray := by
    rw [← h1.evals h3]
    exact Array.ext' (by simp)
  have hrun : (execOp a'.eval o).run P w' = .ok (.defer (defOf f cap vs)) w' := by
    simp [execOp, ho, resolve, hc, h1.eval h2, Deferred.ofValue, e1, defOf]
  unfold Oper.wp
  rw [hrun]
  refine ⟨C', hw', (fun h => by cases h), fun w'' hw'' => ?_⟩
  rw [hdst]
  exact h4.out _ w'' ⟨h1.size, by show _ :: a'.defers = _; rw [h1.defers], h1.get⟩ hw''⟩
/-- A deferred call of f, where the caller returns. -/
def SpecD (P : Program) (f : FuncId) (args : List Value) (pre : List Asn) (post : Value → List Asn → Prop) : Prop :=
  ∀ w F, Star w pre F → CallsD P f args.toArray .returning w (fun en u w' => u = .returning ∧ ∃ v M, en = .returned v ∧ post v M ∧ St w F M w')
theorem spec_ofD {f : FuncId} {fn : Func} {c : Code} {args : List Value} {pre : List Asn} {post : Value → List Asn → Prop} (hf : P.funcs[f]? = some fn) (hb : fn.body = some c) (hn : fn.ntmps = n) (hlen : args.length ≤ n)
    (h : ∀ w F, HC P n [] c (bodyPostD P fn (bodyR w F post)) (envOf 0 args) (St w F pre)) : Spec P f args pre post := fun w F hs => by
  refine calls_of_wp_defers hf hb ((h w F).out _ _ ⟨?_, rfl, fun k v hk => ?_⟩ (.start hs))
  · simp [hn]; omega
  · obtain ⟨_, h2⟩ := envOf_get _ _ _ _ hk
    have hlt : k - 0 < args.length := by
      rcases Nat.lt_or_ge (k - 0) args.length with h | h
      · exact h
      · simp only [Nat.sub_zero] at h h2; rw [List.getElem?_eq_none h] at h2; cases h2
    have hlt' : k < args.length := by omega
    rw [Nat.sub_zero] at h2
    rw [Array.getElem?_append_left (by simpa using hlt')]
    simpa using h2
/-- The return, one call deferred. -/
theorem hq_retD1 {fn : Func} {x : Exit} {f : FuncId} {vs : List Value} {cap : Array Value} {pre rest : List Asn} {postf post : Value → List Asn → Prop} {x1 : ResultVar} (hx : x = .normal ∨ x = .ret) (hr : fn.results = #[x1]) (he : Enters P f) (hpu : Pulls L pre rest) (hs : SpecD P f (vs ++ cap.toList) pre postf)
    (h : ∀ v M, postf v M → ∃ v1 M', RVal P e (M ++ rest) x1 v1 ∧ post v1 M' ∧ ∀ w, St w0 F0 (M ++ rest) w → St w0 F0 M' w) :
    HQ n [defOf f cap vs] (bodyPostD P fn (bodyR w0 F0 post)) x e (St w0 F0 L) := ⟨fun a w ha hC => by
  have hC' : St w0 F0 (pre ++ rest) w := hC.perm hpu.perm
  have key : Leaves P fn a.tmps (bodyR w0 F0 post) a.defers .returning w := by
    rw [ha.defers]
    have hi : (invoke (.fn (.func f) cap) vs.toArray).run P w = .ok (.enter f (vs.toArray ++ cap)) w := by
      simp only [invoke]
      exact he _ _
    refine leaves_cons (by simp) hi ?_
    obtain ⟨F, h1, h2, h3⟩ := hC'
    obtain ⟨F1, F2, s1, s2, s3, s4⟩ := h1.tight.split
    have hcall := hs w F1 s1
    have e1 : (vs ++ cap.toList).toArray = vs.toArray ++ cap := by simp
    rw [e1] at hcall
    refine hcall.mono ?_
    rintro en u w' ⟨rfl, v, M, rfl, hp, hSt⟩
    have hst : St w0 F0 (M ++ rest) w' := by
      obtain ⟨G, g1, g2, g3⟩ := hSt
      have t2 := s2.tight
      refine ⟨fun b => G b ∨ (F2 b ∧ b < w.heap.size), g1.join (t2.loc fun b hb => g2.blk b hb.2 fun hb1 => s3 b hb1 hb.1) (fun b hb hc => ?_) (fun _ h => h), ⟨g2.os.trans h2.os, g2.tape.trans h2.tape, g2.output.trans h2.output, Nat.le_trans h2.size g2.size, fun k hk hn => ?_⟩, fun b hb => ?_⟩
      · rcases g3 b hb with h | h
        · exact s3 b h hc.1
        · exact absurd hc.2 (by omega)
      · refine (g2.blk k (Nat.lt_of_lt_of_le hk h2.size) fun hk1 => ?_).trans (h2.blk k hk hn)
        rcases h3 k (s4 k (.inl hk1)).1 with h | h
        · exact hn h
        · omega
      · rcases hb with hb | hb
        · rcases g3 b hb with h | h
          · exact h3 b (s4 b (.inl h)).1
          · exact .inr (Nat.le_trans h2.size h)
        · exact h3 b (s4 b (.inr hb.1)).1
    obtain ⟨v1, M', r1, r2, r3⟩ := h v M hp
    exact ⟨v1, results1 hr r1 ha hst, v1, M', rfl, r2, r3 w' hst⟩
  rcases hx with rfl | rfl
  · exact key
  · exact key⟩
/-- A deferred function that begins with recover(), where nothing is to be recovered. -/
theorem specD_recover {f : FuncId} {fn : Func} {id : Nat} {o : Oper} {rest : Code} {args : List Value} {pre : List Asn} {post : Value → List Asn → Prop} {t : Nat} (hf : P.funcs[f]? = some fn) (hb : fn.body = some (Code.seq (Code.region id #[o] false) rest)) (hn : fn.ntmps = n) (hlen : args.length ≤ n)
    (ho : o.op = .call { callee := .builtin .recover, args := #[], argTypes := #[] }) (hg : o.guard = none) (hdst : o.dst = some t) (ht : okD n (some t) = true)
    (h : ∀ w F, HC P n [] rest (bodyPost P fn (bodyR w F post)) ((t, .nilIface) :: envOf 0 args) (St w F pre)) : SpecD P f args pre post := fun w F hs => by
  refine callsD_of_wpS hf hb (fun c0 cs hu => ?_)
  apply wpS_seq
  apply wpS_region
  obtain ⟨a0, ha0⟩ : ∃ a0 : Act, a0 = { tmps := args.toArray ++ Array.replicate (fn.ntmps - args.toArray.size) undef, defers := [] } := ⟨_, rfl⟩
  have hhas : Has n [] a0 (envOf 0 args) := by
    subst ha0
    refine ⟨by simp [hn]; omega, rfl, fun k v hk => ?_⟩
    obtain ⟨_, h2⟩ := envOf_get _ _ _ _ hk
    have hlt : k - 0 < args.length := by
      rcases Nat.lt_or_ge (k - 0) args.length with h | h
      · exact h
      · simp only [Nat.sub_zero] at h h2; rw [List.getElem?_eq_none h] at h2; cases h2
    have hlt' : k < args.length := by omega
    rw [Nat.sub_zero] at h2
    show (args.toArray ++ _)[k]? = _
    rw [Array.getElem?_append_left (by simpa using hlt')]
    simpa using h2
  rw [← ha0]
  have hrun : (execOp a0.eval o).run P w = .ok .recover w := by
    simp [execOp, ho, resolve, invoke, builtin]
  have hrec : recoverD (c0 :: cs) = none := by simp [recoverD, hu]
  have hw : Region.wanted o (yielded #[o] a0.tmps) = true := by simp [Region.wanted, hg]
  show wpOpsS P #[o] _ [0] a0 (c0 :: cs) w
  simp only [wpOpsS]
  have h0 : (#[o] : Array Oper)[0]? = some o := rfl
  simp only [h0, hw, if_true, hrun, hrec]
  have ha' : Has n [] (a0.put o.dst .nilIface) ((t, .nilIface) :: envOf 0 args) := by rw [hdst]; exact hhas.put ht _
  refine wpS_of_wp (wp_mono ((h w F).out _ w ha' (.start hs)) ?_)
  have hc0 : ({ c0 with mode := .returning } : Frame) = c0 := by rw [← hu]
  intro ex a' w' hq
  cases ex with
  | normal =>
    obtain ⟨h1, v, h2, h3⟩ := hq
    exact ⟨h1, .returning, by rw [hc0], v, h2, rfl, h3⟩
  | ret =>
    obtain ⟨h1, v, h2, h3⟩ := hq
    exact ⟨h1, .returning, by rw [hc0], v, h2, rfl, h3⟩
  | panic ch =>
    obtain ⟨_, v, M, h1, _⟩ := hq
    cases h1
  | outgrown =>
    obtain ⟨v, M, h1, _⟩ := hq
    cases h1
  | exit id => exact hq.elim
  | goto l => exact hq.elim
end
end Go.Proofs.YtfolhmlldoepfaaGreatDoor
namespace Go.Proofs.YtfolhmlldoepfaaGreatDoor
open Go
section
variable {X : Type} {E : Elem X} {w : World} {xs : List X}
theorem Rd.sub {g off len cap i j : Nat} (h : Rd E w (.slice (some ⟨g, off, none⟩) len cap) xs) (h1 : i ≤ j) (h2 : j ≤ xs.length) : Rd E w (.slice (some ⟨g, if cap = i then off else off + i * E.sz, none⟩) (j - i) (cap - i)) ((xs.drop i).take (j - i)) := by
  obtain ⟨a, c, e, l1, l2, l3⟩ := h
  injection e with e1 e2 e3
  subst e3
  have hlen : ((xs.drop i).take (j - i)).length = j - i := by rw [List.length_take, List.length_drop]; omega
  refine ⟨_, _, by rw [hlen], by rw [hlen]; omega, by omega, ?_⟩
  by_cases hij : i = j
  · left
    rw [hij, Nat.sub_self, List.take_zero]
  · right
    have hx : xs ≠ [] := by
      intro e
      rw [e] at h2
      simp at h2
      omega
    obtain ⟨g', off', e4, hc⟩ := l3.resolve_left hx
    rw [← e1] at e4
    injection e4 with e4
    injection e4 with e4 e5
    subst e4 e5
    have hci : ¬ cap = i := by omega
    rw [if_neg hci]
    refine ⟨g, _, rfl, fun k x hk u v hv => ?_⟩
    have hk2 : k < j - i := by
      have := (List.getElem?_eq_some_iff.1 hk).1
      rwa [hlen] at this
    rw [List.getElem?_take_of_lt hk2, List.getElem?_drop] at hk
    have := hc _ x hk u v hv
    rw [show off + i * E.sz + k * E.sz + u = off + (i + k) * E.sz + u by rw [Nat.add_mul]; omega]
    exact this
end
section
variable {P : Program} {n : Nat} {ds : List Deferred} {ops : Array Oper} {ev wk : Nat → Bool} {K : Env → (World → Prop) → Prop} {r : List Oper} {o : Oper} {k : Nat} {e : Env} {C : World → Prop} {w0 : World} {F0 : Nat → Prop} {L L' : List Asn}
theorem addr_sub (g off m : Nat) (c : Prop) [Decidable c] : (if c then some (⟨g, off, none⟩ : Addr) else some ((⟨g, off, none⟩ : Addr).add m)) = some ⟨g, if c then off else off + m, none⟩ := by
  split <;> simp [add_lit]
/-- s[i:j]. -/
theorem h_cut {t el len cap g off s : Nat} {x y z : Operand} {q q2 : IntKind} (i j : Nat) (ho : o.op = .slice t x (some y) (some z) none) (hx : e.op x = some (.slice (some ⟨g, off, none⟩) len cap)) (hy : e.op y = some (.int q (i : Int))) (hz : e.op z = some (.int q2 (j : Int))) (hu : P.underlying t = some (.slice el)) (hs : SizeOf P el s) (hi : i ≤ j ∧ j ≤ cap)
    {dd : Nat} (hdst : o.dst = some dd) (hd : okD n (some dd) = true) (h : HX P n ds ops ev wk K r (k + 1) ((dd, .slice (some ⟨g, if cap = i then off else off + i * s, none⟩) (j - i) (cap - i)) :: e) C) : HX1 P n ds ops ev wk K o r k e C :=
  h_sliceFT ho hx hy hz hu hs (by omega) hdst hd (by
    simp only [Option.map_some, Int.toNat_natCast, addr_sub]
    exact h)
theorem h_shrU {t t2 : TypeId} {x y : Operand} {q2 : IntKind} {a b : Int} (ho : o.op = .binOp .shr t x y t2) (hx : e.op x = some (.int .u64 a)) (hy : e.op y = some (.int q2 b)) (hb : 0 ≤ b ∧ b ≤ 64)
    {dd : Nat} (hdst : o.dst = some dd) (hd : okD n (some dd) = true) (h : HX P n ds ops ev wk K r (k + 1) ((dd, .int .u64 (a / 2 ^ b.toNat)) :: e) C) : HX1 P n ds ops ev wk K o r k e C := h_shr ho hx hy hb hdst hd h
theorem h_shlU {t t2 : TypeId} {x y : Operand} {q2 : IntKind} {a b : Int} (ho : o.op = .binOp .shl t x y t2) (hx : e.op x = some (.int .u64 a)) (hy : e.op y = some (.int q2 b)) (hb : 0 ≤ b ∧ b ≤ 64)
    {dd : Nat} (hdst : o.dst = some dd) (hd : okD n (some dd) = true) (h : HX P n ds ops ev wk K r (k + 1) ((dd, .int .u64 (IntKind.u64.wrap (a * 2 ^ b.toNat))) :: e) C) : HX1 P n ds ops ev wk K o r k e C := h_shl ho hx hy hb hdst hd h
/-- A new array, all its elements told. -/
theorem h_buildSliceB {t el len size : Nat} {ps : Array (Nat × Operand)} {vs : List Value} {zv : Value} (hev : ev k = true) (hwk : wk k = false) (ho : o.op = .buildSlice t len ps) (hu : P.underlying t = some (.slice el)) (hs : SizeOf P el size) (hz : ZeroOf P el zv) (hvs : e.elems 0 ps.toList = some vs) (hlen : Nat.beq vs.length len = true) (hsz : (vs.all fun v => Nat.beq v.cells.toList.length size) = true) (hbig : len * size ≤ 2 ^ 24)
    {dd : Nat} (hdst : o.dst = some dd) (hd : okD n (some dd) = true) (h : ∀ b, HX P n ds ops ev wk K r (k + 1) ((dd, .slice (some ⟨b, 0, none⟩) len len) :: e) (St w0 F0 (Blk b (.cells (vs.flatMap (fun v => v.cells.toList)).toArray el (0, 0)) :: L))) : HX1 P n ds ops ev wk K o r k e (St w0 F0 L) :=
  h_buildSlice hev hwk ho hu hs hz hvs hlen (fun v hv => by have := Nat.eq_of_beq_eq_true (List.all_eq_true.1 hsz v hv); rwa [Array.length_toList] at this) hbig hdst hd h
/-- An array by value, all its elements told. -/
theorem h_buildA {t el len size : Nat} {ps : Array (Nat × Operand)} {vs : List Value} {zv : Value} (ho : o.op = .build t ps) (hu : P.underlying t = some (.array len el)) (hs : SizeOf P el size) (hz : ZeroOf P t zv) (hzs : zv.cells.size = len * size) (hvs : e.elems 0 ps.toList = some vs) (hlen : Nat.beq vs.length len = true) (hsz : ∀ v ∈ vs, v.cells.size = size)
    {dd : Nat} (hdst : o.dst = some dd) (hd : okD n (some dd) = true) (h : HX P n ds ops ev wk K r (k + 1) ((dd, .agg (vs.flatMap (fun v => v.cells.toList)).toArray) :: e) C) : HX1 P n ds ops ev wk K o r k e C :=
  hx1_pure (by rw [ho]; rfl) hdst hd (fun a w ha => by
    obtain ⟨e1, e2⟩ := ha.elems hvs
    have hl := Nat.eq_of_beq_eq_true hlen
    have e3 : ps.map (fun (i, x) => (i, a.eval x)) = ((vs.zipIdx 0).map (fun p => (p.2, p.1))).toArray := by
      rw [← e1]
      exact Array.ext' (by simp)
    have hfill := fill_full (size := size) vs 0 zv.cells [] hsz (by simp) (by rw [hzs, Nat.zero_add, hl]) (by simp)
    simp only [execOp, ho, e3, Instr.build]
    simp [run_zero hz, run_und hu, run_size hs]
    simp at hfill
    simp [hfill]) h
/-- A call that only reads, where what it reads is known of the world. -/
theorem h_callRd {c : Call} {f : FuncId} {fo : Operand} {vs : List Value} {cap : Array Value} {v : Value} (ho : o.op = .call c) (hc : c.callee = .value fo) (hf : e.op fo = some (.func (.func f) #[] cap)) (hvs : e.ops c.args.toList = some vs)
    {dd : Nat} (hdst : o.dst = some dd) (hd : okD n (some dd) = true) (he : Enters P f) (hs : ∀ w, St w0 F0 L w → Calls P f (vs ++ cap.toList).toArray w (fun en w' => en = .returned v ∧ But w w' nowhere))
    (h : HX P n ds ops ev wk K r (k + 1) ((dd, v) :: e) (St w0 F0 L)) : HX1 P n ds ops ev wk K o r k e (St w0 F0 L) :=
  h_callR ho hc hf hvs hdst hd he hs h
end
theorem setMany_all {cs : Array Value} {vs : List Value} (h : vs.length = cs.size) : setMany cs 0 vs = vs.toArray := by
  apply Array.ext_getElem?
  intro j
  rw [setMany_get vs cs 0 j (by omega)]
  by_cases hj : j < vs.length
  · rw [if_pos (by omega)]
    simp
  · rw [if_neg (by omega), Array.getElem?_eq_none (by omega)]
    simp
    omega
theorem setMany_one {cs : Array Value} {off : Nat} {v : Value} : setMany cs off [v] = (cs.toList.set off v).toArray := by
  apply Array.ext'
  simp [setMany]
/-- One cell is written. -/
theorem h_store1 {P : Program} {n : Nat} {ds : List Deferred} {ops : Array Oper} {ev wk : Nat → Bool} {K : Env → (World → Prop) → Prop} {r : List Oper} {o : Oper} {k : Nat} {e : Env} {w0 : World} {F0 : Nat → Prop} {L L' : List Asn} {t b off : Nat} {x y : Operand} {cs : Array Value} {bt : TypeId} {v : Value} (hev : ev k = true) (hwk : wk k = false) (ho : o.op = .store t x y) (hdst : o.dst = none) (hx : e.op x = some (.pointer (some ⟨b, off, none⟩))) (hy : e.op y = some v) (hs : SizeOf P t 1)
    (hp : Pull L (Blk b (.cells cs bt (0, 0))) L') (hl : v.cells.toList = [v]) (hr : Nat.ble (off + 1) cs.toList.length = true) (h1 : v.oneCell' = true)
    (h : HX P n ds ops ev wk K r (k + 1) e (St w0 F0 (Blk b (.cells (cs.toList.set off v).toArray bt (0, 0)) :: L'))) : HX1 P n ds ops ev wk K o r k e (St w0 F0 L) := by
  have e2 := Nat.le_of_ble_eq_true hr
  rw [Array.length_toList] at e2
  exact h_store hev hwk ho hdst hx hy hs hp hl rfl e2 (fun u hu => by rw [List.mem_singleton.1 hu]; exact h1) (by rw [setMany_one]; exact h)
/-- A whole block is written. -/
theorem h_storeAll {P : Program} {n : Nat} {ds : List Deferred} {ops : Array Oper} {ev wk : Nat → Bool} {K : Env → (World → Prop) → Prop} {r : List Oper} {o : Oper} {k : Nat} {e : Env} {w0 : World} {F0 : Nat → Prop} {L L' : List Asn} {t b s : Nat} {x y : Operand} {cs : Array Value} {bt : TypeId} {v : Value} {vs : List Value} (hev : ev k = true) (hwk : wk k = false) (ho : o.op = .store t x y) (hdst : o.dst = none) (hx : e.op x = some (.pointer (some ⟨b, 0, none⟩))) (hy : e.op y = some v) (hs : SizeOf P t s)
    (hp : Pull L (Blk b (.cells cs bt (0, 0))) L') (hl : v.cells.toList = vs) (hls : Nat.beq vs.length s = true) (hr : Nat.beq cs.toList.length s = true) (h1 : ∀ u ∈ vs, u.oneCell' = true)
    (h : HX P n ds ops ev wk K r (k + 1) e (St w0 F0 (Blk b (.cells vs.toArray bt (0, 0)) :: L'))) : HX1 P n ds ops ev wk K o r k e (St w0 F0 L) := by
  have e1 := Nat.eq_of_beq_eq_true hls
  have e2 := Nat.eq_of_beq_eq_true hr
  rw [Array.length_toList] at e2
  exact h_store hev hwk ho hdst hx hy hs hp hl e1 (by omega) h1 (by rw [setMany_all (by omega)]; exact h)
/-- A store, where reads may still come: what is left implies D. -/
theorem hd_store {P : Program} {n : Nat} {ds : List Deferred} {ops : Array Oper} {ev : Nat → Bool} {D : World → Prop} {K : Env → (World → Prop) → Prop} {r : List (Nat × Oper)} {e : Env} {w0 : World} {F0 : Nat → Prop} {L L' : List Asn} {i t b off s : Nat} {o : Oper} {x y : Operand} {cs : Array Value} {bt : TypeId} {v : Value} {vs : List Value} (hg : o.guard = none) (hev : ev i = true) (ho : o.op = .store t x y) (hdst : o.dst = none) (hx : e.op x = some (.pointer (some ⟨b, off, none⟩))) (hy : e.op y = some v) (hs : SizeOf P t s)
    (hp : Pull L (Blk b (.cells cs bt (0, 0))) L') (hl : v.cells.toList = vs) (hls : vs.length = s) (hr : off + s ≤ cs.size) (h1 : ∀ u ∈ vs, u.oneCell' = true)
    (hD : ∀ x, St w0 F0 (Blk b (.cells (setMany cs off vs) bt (0, 0)) :: L') x → D x)
    (h : HD P n ds ops ev D K r e (St w0 F0 (Blk b (.cells (setMany cs off vs) bt (0, 0)) :: L'))) : HD P n ds ops ev D K ((i, o) :: r) e (St w0 F0 L) := ⟨fun a ha => by
  simp only [TXD]
  rw [if_pos (by simp [Region.wanted, hg]), if_pos hev]
  intro w hC
  have hC' := hC.perm hp.perm
  have hb := hC'.blk
  subst hl
  obtain ⟨w', hrun, hbut, hh⟩ := run_storeAt (P := P) (v := v) (off := off) hb hs (by simpa using hls) (by simpa using hr) h1
  unfold Oper.wp
  have : (execOp a.eval o).run P w = .ok .skip w' := by simp [execOp, ho, ha.eval hx, ha.eval hy, hrun]
  rw [this]
  refine ⟨_, hC'.put hbut hh, hD, ?_⟩
  rw [hdst]
  exact h.out _ ha⟩
theorem St.blk_holds {X : Type} {E : Elem X} {b m : Nat} {cs : Array Value} {bt : TypeId} {fz : Nat × Nat} {w0 : World} {F0 : Nat → Prop} {L : List Asn} {w : World} (xs : List X) (h : St w0 F0 (Blk b (.cells cs bt fz) :: L) w) (hm : xs.length = m) (hl : m ≤ maxLen)
    (hcs : ∀ i q, xs[i]? = some q → ∀ j u, (E.enc q)[j]? = some u → cs[i * E.sz + j]? = some u) : St w0 F0 (Holds E [(.slice (some ⟨b, 0, none⟩) m m, xs)] :: L) w :=
  h.map (A := Blk b (.cells cs bt fz)) (B := Holds E [(.slice (some ⟨b, 0, none⟩) m m, xs)]) fun F hp => by
    subst hm
    refine ⟨fun q hq => ?_, (Blk b (.cells cs bt fz)).lt hp⟩
    rw [List.mem_singleton.1 hq]
    obtain ⟨h1, h2⟩ := hp
    exact ⟨_, _, rfl, Nat.le_refl _, hl, .inr ⟨b, 0, (h1 b).2 rfl, rfl, fun i x hx j u hu => by rw [blk_cell h2, Nat.zero_add]; exact hcs i x hx j u hu⟩⟩
/-- What a function makes of what it reads: new pieces. -/
def Makes (P : Program) (f : FuncId) (args : List Value) (w : World) (post : Value → List Asn → Prop) : Prop :=
  Calls P f args.toArray w (fun en w' => ∃ v M, en = .returned v ∧ post v M ∧ St w nowhere M w')
/-- The object's first cells are these. -/
def CellsOf (o : Obj) (vs : List Value) : Prop := ∃ (cs : Array Value) (bt : TypeId) (fz : Nat × Nat), o = .cells cs bt fz ∧ ∀ (i : Nat) (v : Value), vs[i]? = some v → cs[i]? = some v
/-- In this world the block's first cells are these. -/
def CelAt (b : Nat) (vs : List Value) (w : World) : Prop := ∃ ob, w.heap[b]? = some ob ∧ CellsOf ob vs
theorem makes_of {P : Program} {n : Nat} {f : FuncId} {fn : Func} {c : Code} {args : List Value} {w : World} {post : Value → List Asn → Prop} (hf : P.funcs[f]? = some fn) (hb : fn.body = some c) (hn : fn.ntmps = n) (hlen : args.length ≤ n)
    (h : HC P n [] c (bodyPost P fn (bodyR w nowhere post)) (envOf 0 args) (St w nowhere [])) : Makes P f args w post :=
  spec_at (pre := []) (F := nowhere) hf hb hn hlen trivial h
end Go.Proofs.YtfolhmlldoepfaaGreatDoor
namespace Go.Proofs.YtfolhmlldoepfaaGreatDoor
open Go
section
variable {X : Type} {E : Elem X} {w : World} {xs : List X}
theorem Rd.takeN {a : Option Addr} {len cap n : Nat} (h : Rd E w (.slice a len cap) xs) (hn : n ≤ xs.length) : Rd E w (.slice a n cap) (xs.take n) := by
  obtain ⟨a', c, e, l1, l2, l3⟩ := h
  injection e with e1 e2 e3
  subst e1 e3
  have hlen : (xs.take n).length = n := by rw [List.length_take]; omega
  refine ⟨_, _, by rw [hlen], by rw [hlen]; omega, l2, ?_⟩
  rcases l3 with h | ⟨g, off, e4, hc⟩
  · left; rw [h]; simp
  · refine .inr ⟨g, off, e4, fun k x hk u v hv => hc k x ?_ u v hv⟩
    rw [List.getElem?_take] at hk
    split at hk
    · exact hk
    · cases hk
theorem Rd.dropN {g off len cap i : Nat} (h : Rd E w (.slice (some ⟨g, off, none⟩) len cap) xs) (hi : i ≤ xs.length) (hl : len = xs.length) : Rd E w (.slice (some ⟨g, if cap = i then off else off + i * E.sz, none⟩) (len - i) (cap - i)) (xs.drop i) := by
  subst hl
  have := h.sub hi (Nat.le_refl _)
  rwa [List.take_of_length_le (by rw [List.length_drop]; exact Nat.le_refl _)] at this
end
end Go.Proofs.YtfolhmlldoepfaaGreatDoor
namespace Go.Proofs.YtfolhmlldoepfaaGreatDoor
open Go
/-- The blocks below g are package variables (or what they point to); of some the first cells are known. -/
def Glo (l : List (Nat × List Value)) (g : Nat) (w : World) : Prop := g ≤ w.heap.size ∧ ∀ p ∈ l, p.1 < g ∧ CelAt p.1 p.2 w
theorem Glo.but {l : List (Nat × List Value)} {g : Nat} {w w' : World} {F : Nat → Prop} (h : Glo l g w) (hb : But w w' F) (hF : ∀ b, F b → g ≤ b) : Glo l g w' :=
  ⟨Nat.le_trans h.1 hb.size, fun p hp => by
    obtain ⟨h1, ob, h2, h3⟩ := h.2 p hp
    exact ⟨h1, ob, (hb.blk p.1 (Nat.lt_of_lt_of_le h1 h.1) (fun hf => absurd (hF _ hf) (by omega))).trans h2, h3⟩⟩
theorem St.glo {l : List (Nat × List Value)} {g : Nat} {w0 w : World} {F0 : Nat → Prop} {L : List Asn} (h : St w0 F0 L w) (hI : Glo l g w0) (hF : ∀ b, F0 b → g ≤ b) : Glo l g w := hI.but h.but hF
/-- Called with args on the pieces pre, where the package variables are as told, f returns. -/
def SpecI (P : Program) (l : List (Nat × List Value)) (g : Nat) (f : FuncId) (args : List Value) (pre : List Asn) (post : Value → List Asn → Prop) : Prop :=
  ∀ w F, Star w pre F → Glo l g w → (∀ b, F b → g ≤ b) → Calls P f args.toArray w (fun en w' => ∃ v M, en = .returned v ∧ post v M ∧ St w F M w')
/-- .. f panics. -/
def SpecP (P : Program) (f : FuncId) (args : List Value) (pre : List Asn) (post : List PanicEntry → List Asn → Prop) : Prop :=
  ∀ w F, Star w pre F → Calls P f args.toArray w (fun en w' => ∃ ch M, en = .panicked ch ∧ post ch M ∧ St w F M w')
/-- A deferred call of f while the caller panics: f recovers. -/
def SpecDP (P : Program) (l : List (Nat × List Value)) (g : Nat) (f : FuncId) (args : List Value) (ch : List PanicEntry) (pre : List Asn) (post : Value → List Asn → Prop) : Prop :=
  ∀ w F, Star w pre F → Glo l g w → (∀ b, F b → g ≤ b) → CallsD P f args.toArray (.panicking ch) w (fun en u w' => settle u = .returning ∧ ∃ v M, en = .returned v ∧ post v M ∧ St w F M w')
/-- The pieces that a call takes stand apart; what it hands back joins the rest. -/
theorem St.callAt {w0 : World} {F0 : Nat → Prop} {pre rest : List Asn} {w : World} (h : St w0 F0 (pre ++ rest) w) :
    ∃ F1, Star w pre F1 ∧ (∀ b, F1 b → F0 b ∨ w0.heap.size ≤ b) ∧ ∀ post w', St w F1 post w' → St w0 F0 (post ++ rest) w' := by
  obtain ⟨F, h1, h2, h3⟩ := h
  obtain ⟨F1, F2, s1, s2, s3, s4⟩ := h1.tight.split
  refine ⟨F1, s1, fun b hb => h3 b (s4 b (.inl hb)).1, ?_⟩
  rintro post w' ⟨G, g1, g2, g3⟩
  have t2 := s2.tight
  refine ⟨fun b => G b ∨ (F2 b ∧ b < w.heap.size), g1.join (t2.loc fun b hb => g2.blk b hb.2 fun hb1 => s3 b hb1 hb.1) (fun b hb hc => ?_) (fun _ h => h), ⟨g2.os.trans h2.os, g2.tape.trans h2.tape, g2.output.trans h2.output, Nat.le_trans h2.size g2.size, fun k hk hn => ?_⟩, fun b hb => ?_⟩
  · rcases g3 b hb with h | h
    · exact s3 b h hc.1
    · exact absurd hc.2 (by omega)
  · refine (g2.blk k (Nat.lt_of_lt_of_le hk h2.size) fun hk1 => ?_).trans (h2.blk k hk hn)
    rcases h3 k (s4 k (.inl hk1)).1 with h | h
    · exact hn h
    · omega
  · rcases hb with hb | hb
    · rcases g3 b hb with h | h
      · exact h3 b (s4 b (.inl h)).1
      · exact .inr (Nat.le_trans h2.size h)
    · exact h3 b (s4 b (.inr hb.1)).1
section
variable {P : Program} {n : Nat} {ds : List Deferred} {ops : Array Oper} {ev wk : Nat → Bool} {K : Env → (World → Prop) → Prop} {r : List Oper} {o : Oper} {k : Nat} {e : Env} {C : World → Prop} {w0 : World} {F0 : Nat → Prop} {L L' : List Asn} {l : List (Nat × List Value)} {g : Nat}
theorem glo_pre {F1 : Nat → Prop} (hI : Glo l g w0) (hF : ∀ b, F0 b → g ≤ b) (h : ∀ b, F1 b → F0 b ∨ w0.heap.size ≤ b) : ∀ b, F1 b → g ≤ b := fun b hb => (h b hb).elim (hF b) (fun h => Nat.le_trans hI.1 h)
/-- A call that leans on package variables. -/
theorem h_callI (hI : Glo l g w0) (hF : ∀ b, F0 b → g ≤ b) {c : Call} {f : FuncId} {fo : Operand} {vs : List Value} {cap : Array Value} {pre rest : List Asn} {post : Value → List Asn → Prop} (hev : ev k = true) (hwk : wk k = false) (ho : o.op = .call c) (hc : c.callee = .value fo) (hf : e.op fo = some (.func (.func f) #[] cap)) (hvs : e.ops c.args.toList = some vs)
    {dd : Nat} (hdst : o.dst = some dd) (hd : okD n (some dd) = true) (he : Enters P f) (hpu : Pulls L pre rest) (hs : SpecI P l g f (vs ++ cap.toList) pre post)
    (h : ∀ v M, post v M → HX P n ds ops ev wk K r (k + 1) ((dd, v) :: e) (St w0 F0 (M ++ rest))) : HX1 P n ds ops ev wk K o r k e (St w0 F0 L) :=
  hx1_event hev (fun a w ha hC => by
    have hC' : St w0 F0 (pre ++ rest) w := hC.perm hpu.perm
    unfold Oper.wp
    rw [run_call he hc (ha.eval hf) (ha.evals hvs) ho]
    obtain ⟨F1, s1, s2, s3⟩ := hC'.callAt
    have hcall := hs w F1 s1 (hC.glo hI hF) (glo_pre hI hF s2)
    have e1 : (vs ++ cap.toList).toArray = vs.toArray ++ cap := by simp
    rw [e1] at hcall
    refine hcall.mono ?_
    rintro en w' ⟨v, M, rfl, hp, hSt⟩
    exact ⟨St w0 F0 (M ++ rest), _, s3 M w' hSt, (fun h => by rw [hwk] at h; cases h), (by rw [hdst]; exact ha.put hd v), h v M hp⟩)
/-- A load of a package variable. -/
theorem h_gload (hI : Glo l g w0) (hF : ∀ b, F0 b → g ≤ b) {t b : Nat} {x : Operand} {d : TypeDesc} {vs : List Value} {v : Value} (ho : o.op = .load t x) (hx : e.op x = some (.pointer (some ⟨b, 0, none⟩))) (hm : (b, vs) ∈ l) (hv : nth vs 0 = some v) (hu : P.underlying t = some d) (hna : aggD d = false)
    {dd : Nat} (hdst : o.dst = some dd) (hd : okD n (some dd) = true) (h : HX P n ds ops ev wk K r (k + 1) ((dd, v) :: e) (St w0 F0 L)) : HX1 P n ds ops ev wk K o r k e (St w0 F0 L) :=
  hx1_read (by rw [ho]; rfl) (by rw [ho]; rfl) hdst hd (fun a w ha hC => by
    obtain ⟨_, ob, hb, cs, bt, fz, rfl, hc⟩ := (hC.glo hI hF).2 _ hm
    simp [execOp, ho, ha.eval hx, run_load1 hu hna ((blk_cell hb 0).trans (hc 0 v (by rw [← nth_eq]; exact hv)))]) h
theorem h_makeInterface {t : TypeId} {x : Operand} {v : Value} {d : TypeDesc} (ho : o.op = .makeInterface t x) (hx : e.op x = some v) (hu : P.underlying t = some d) (hni : (match d with | .interface _ => false | _ => true) = true)
    {dd : Nat} (hdst : o.dst = some dd) (hd : okD n (some dd) = true) (h : HX P n ds ops ev wk K r (k + 1) ((dd, .iface t v) :: e) C) : HX1 P n ds ops ev wk K o r k e C :=
  hx1_pure (by rw [ho]; rfl) hdst hd (fun a w ha => by
    have : (Instr.makeInterface t v).run P w = .ok (.iface t v) w := by
      simp only [Instr.makeInterface, Sem.run_bind, run_und hu, Result.andThen]
      cases d <;> first | rfl | cases hni
    simp [execOp, ho, ha.eval hx, this]) h
/-- What an operation yields, whatever the world. -/
theorem h_yield {v : Value} {dd : Nat} (hev : ev k = true) (hrun : ∀ a w, Has n ds a e → (execOp a.eval o).run P w = .ok (.value v) w) (hdst : o.dst = some dd) (hd : okD n (some dd) = true) (h : HX P n ds ops ev wk K r (k + 1) ((dd, v) :: e) C) : HX1 P n ds ops ev wk K o r k e C :=
  hx1_event hev (fun a w ha hC => by
    unfold Oper.wp
    rw [hrun a w ha]
    exact ⟨C, _, hC, fun _ _ h => h, by rw [hdst]; exact ha.put hd _, h⟩)
theorem h_typeAssert {x : Operand} {xT T : TypeId} {v r0 : Value} (hev : ev k = true) (ho : o.op = .typeAssert x xT T true) (hx : e.op x = some v) (hr : ∀ w, (Instr.typeAssert v xT T true).run P w = .ok r0 w)
    {dd : Nat} (hdst : o.dst = some dd) (hd : okD n (some dd) = true) (h : HX P n ds ops ev wk K r (k + 1) ((dd, r0) :: e) C) : HX1 P n ds ops ev wk K o r k e C :=
  h_yield hev (fun a w ha => by simp [execOp, ho, ha.eval hx, hr]) hdst hd h
/-- == at an interface type, the values not both nil. -/
theorem h_eqIf {t t2 : TypeId} {x y : Operand} {u v : Value} {b : Bool} (ho : o.op = .binOp .eql t x y t2) (hx : e.op x = some u) (hy : e.op y = some v) (hn : (match u, v with | .nilIface, .nilIface => false | .agg _, .agg _ => false | _, _ => true) = true) (hr : ∀ w, (binOp .eql t u v).run P w = .ok (.bool b) w)
    {dd : Nat} (hdst : o.dst = some dd) (hd : okD n (some dd) = true) (h : HX P n ds ops ev wk K r (k + 1) ((dd, .bool b) :: e) C) : HX1 P n ds ops ev wk K o r k e C :=
  hx1_pure (by rw [ho]; rfl) hdst hd (fun a w ha => by
    have e1 : (eqGuard .eql t x y u v).run P w = .ok () w := by
      cases u <;> cases v <;> first | rfl | cases hn
    simp [execOp, ho, ha.eval hx, ha.eval hy, e1, hr]) h
theorem run_eql_iface_nil_right {ti : TypeId} {ms : Array (String × TypeId)} (tp : TypeId) (v : Value) (hi : P.underlying ti = some (.interface ms)) (w : World) :
    (binOp .eql ti (.iface tp v) .nilIface).run P w = .ok (.bool false) w := by
  have h : ∀ d : Nat, (Op.equalIn (d + 1) ti (.iface tp v) .nilIface).run P w = .ok false w := fun d => by simp [Op.equalIn, run_underlying hi]
  simp only [binOp]
  simp [Op.equal, Op.maxDepth, h 9999]
theorem run_invoke {c : Call} {a : Act} {recv : Operand} {name : String} {t f : Nat} {v0 rv : Value} {vs : List Value} {w : World} (ho : o.op = .call c) (hc : c.callee = .invoke recv name) (hr : a.eval recv = .iface t v0) (hvs : c.args.toList.map a.eval = vs) (hm : (Go.method (P.types.size + Made.depth) t v0 name).run P w = .ok (f, rv) w) :
    (execOp a.eval o).run P w = (callFunc f (rv :: vs).toArray).run P w := by
  have e1 : c.args.map a.eval = vs.toArray := by
    rw [← hvs]
    exact Array.ext' (by simp)
  simp [execOp, ho, resolve, hc, hr, e1, invoke, callMethod, hm]
theorem run_callv {c : Call} {a : Act} {fo : Operand} {f : FuncId} {vs : List Value} {w : World} (ho : o.op = .call c) (hc : c.callee = .value fo) (hf : a.eval fo = .func (.func f) #[] #[]) (hvs : c.args.toList.map a.eval = vs) :
    (execOp a.eval o).run P w = (callFunc f vs.toArray).run P w := by
  have e1 : c.args.map a.eval = vs.toArray := by
    rw [← hvs]
    exact Array.ext' (by simp)
  simp [execOp, ho, resolve, hc, hf, Deferred.ofValue, e1, invoke]
/-- A method, called through an interface, that yields. -/
theorem h_invokeX {c : Call} {recv : Operand} {name : String} {t f : Nat} {v0 rv v : Value} {vs : List Value} (hev : ev k = true) (ho : o.op = .call c) (hc : c.callee = .invoke recv name) (hr : e.op recv = some (.iface t v0)) (hvs : e.ops c.args.toList = some vs) (hm : ∀ w, (Go.method (P.types.size + Made.depth) t v0 name).run P w = .ok (f, rv) w)
    (hx : ∀ w, C w → (callFunc f (rv :: vs).toArray).run P w = .ok (.value v) w) {dd : Nat} (hdst : o.dst = some dd) (hd : okD n (some dd) = true) (h : HX P n ds ops ev wk K r (k + 1) ((dd, v) :: e) C) : HX1 P n ds ops ev wk K o r k e C :=
  hx1_event hev (fun a w ha hC => by
    unfold Oper.wp
    rw [run_invoke ho hc (ha.eval hr) (ha.evals hvs) (hm w), hx w hC]
    exact ⟨C, _, hC, fun _ _ h => h, by rw [hdst]; exact ha.put hd _, h⟩)
/-- A function of the model's, that yields. -/
theorem h_callX {c : Call} {fo : Operand} {f : FuncId} {v : Value} {vs : List Value} (hev : ev k = true) (ho : o.op = .call c) (hc : c.callee = .value fo) (hf : e.op fo = some (.func (.func f) #[] #[])) (hvs : e.ops c.args.toList = some vs)
    (hx : ∀ w, C w → (callFunc f vs.toArray).run P w = .ok (.value v) w) {dd : Nat} (hdst : o.dst = some dd) (hd : okD n (some dd) = true) (h : HX P n ds ops ev wk K r (k + 1) ((dd, v) :: e) C) : HX1 P n ds ops ev wk K o r k e C :=
  hx1_event hev (fun a w ha hC => by
    unfold Oper.wp
    rw [run_callv ho hc (ha.eval hf) (ha.evals hvs), hx w hC]
    exact ⟨C, _, hC, fun _ _ h => h, by rw [hdst]; exact ha.put hd _, h⟩)
/-- .. that makes a block. -/
theorem h_callXA {c : Call} {fo : Operand} {f : FuncId} {v : Nat → Value} {ob : Obj} {vs : List Value} (hev : ev k = true) (hwk : wk k = false) (ho : o.op = .call c) (hc : c.callee = .value fo) (hf : e.op fo = some (.func (.func f) #[] #[])) (hvs : e.ops c.args.toList = some vs)
    (hx : ∀ w, (callFunc f vs.toArray).run P w = .ok (.value (v w.heap.size)) (w.alloc ob)) {dd : Nat} (hdst : o.dst = some dd) (hd : okD n (some dd) = true) (h : ∀ b, HX P n ds ops ev wk K r (k + 1) ((dd, v b) :: e) (St w0 F0 (Blk b ob :: L))) : HX1 P n ds ops ev wk K o r k e (St w0 F0 L) :=
  hx1_event hev (fun a w ha hC => by
    unfold Oper.wp
    rw [run_callv ho hc (ha.eval hf) (ha.evals hvs), hx w]
    exact ⟨_, _, hC.new _, (fun h => by rw [hwk] at h; cases h), by rw [hdst]; exact ha.put hd _, h _⟩)
/-- .. that writes a cell. -/
theorem h_callXS {c : Call} {fo : Operand} {f : FuncId} {vs : List Value} {b i : Nat} {u r0 : Value} {cs : Array Value} {bt : TypeId} (hev : ev k = true) (hwk : wk k = false) (ho : o.op = .call c) (hc : c.callee = .value fo) (hf : e.op fo = some (.func (.func f) #[] #[])) (hvs : e.ops c.args.toList = some vs) (hp : Pull L (Blk b (.cells cs bt (0, 0))) L')
    (hx : ∀ w, St w0 F0 L w → w.heap[b]? = some (.cells cs bt (0, 0)) → (callFunc f vs.toArray).run P w = .ok (.value r0) (w.setCell ⟨b, i, none⟩ u)) {dd : Nat} (hdst : o.dst = some dd) (hd : okD n (some dd) = true)
    (h : HX P n ds ops ev wk K r (k + 1) ((dd, r0) :: e) (St w0 F0 (Blk b (.cells (cs.setIfInBounds i u) bt (0, 0)) :: L'))) : HX1 P n ds ops ev wk K o r k e (St w0 F0 L) :=
  hx1_event hev (fun a w ha hC => by
    have hC' := hC.perm hp.perm
    unfold Oper.wp
    rw [run_callv ho hc (ha.eval hf) (ha.evals hvs), hx w hC hC'.blk]
    exact ⟨_, _, hC'.put (set_but w b i u) (set_blk hC'.blk i u), (fun h => by rw [hwk] at h; cases h), by rw [hdst]; exact ha.put hd _, h⟩)
/-- A method of the program's own, called through an interface. -/
theorem h_invokeI (hI : Glo l g w0) (hF : ∀ b, F0 b → g ≤ b) {c : Call} {recv : Operand} {name : String} {t f : Nat} {v0 rv : Value} {vs : List Value} {pre rest : List Asn} {post : Value → List Asn → Prop} (hev : ev k = true) (hwk : wk k = false) (ho : o.op = .call c) (hc : c.callee = .invoke recv name) (hr : e.op recv = some (.iface t v0)) (hvs : e.ops c.args.toList = some vs) (hm : ∀ w, (Go.method (P.types.size + Made.depth) t v0 name).run P w = .ok (f, rv) w)
    {dd : Nat} (hdst : o.dst = some dd) (hd : okD n (some dd) = true) (he : Enters P f) (hpu : Pulls L pre rest) (hs : SpecI P l g f (rv :: vs) pre post)
    (h : ∀ v M, post v M → HX P n ds ops ev wk K r (k + 1) ((dd, v) :: e) (St w0 F0 (M ++ rest))) : HX1 P n ds ops ev wk K o r k e (St w0 F0 L) :=
  hx1_event hev (fun a w ha hC => by
    have hC' : St w0 F0 (pre ++ rest) w := hC.perm hpu.perm
    unfold Oper.wp
    rw [run_invoke ho hc (ha.eval hr) (ha.evals hvs) (hm w), he]
    obtain ⟨F1, s1, s2, s3⟩ := hC'.callAt
    refine (hs w F1 s1 (hC.glo hI hF) (glo_pre hI hF s2)).mono ?_
    rintro en w' ⟨v, M, rfl, hp, hSt⟩
    exact ⟨St w0 F0 (M ++ rest), _, s3 M w' hSt, (fun h => by rw [hwk] at h; cases h), (by rw [hdst]; exact ha.put hd v), h v M hp⟩)
end
section
variable {P : Program} {n : Nat} {ds : List Deferred} {Q : Exit → Act → World → Prop} {e : Env} {C : World → Prop} {w0 : World} {F0 : Nat → Prop} {L L' : List Asn} {ch : List PanicEntry} {l : List (Nat × List Value)} {g : Nat} {ev wk : Nat → Bool}
theorem hq_panic_then {K : Act → World → Prop} (h : HQ n ds Q (.panic ch) e C) : HQ n ds (Exit.then K Q) (.panic ch) e C := ⟨h.out⟩
theorem hq_panic_block {id : Nat} (h : HQ n ds Q (.panic ch) e C) : HQ n ds (Exit.inBlock id Q) (.panic ch) e C := ⟨h.out⟩
theorem wpList_tx_then {ops : Array Oper} {K : Act → (World → Prop) → Prop} {l2 : List Oper} (hQ : ∀ a C w, C w → K a C → wpList P ops Q l2 a w) : ∀ (l1 : List Oper) (k : Nat) (a : Act) (C : World → Prop) (w : World), C w →
    TX P ops ev wk K l1 k a C → wpList P ops Q (l1 ++ l2) a w
  | [], _, _, _, _, hw, h => hQ _ _ _ hw h
  | o :: l1, k, a, C, w, hw, h => by
    simp only [TX] at h
    rw [List.cons_append]
    unfold wpList
    split
    · rename_i hwant
      rw [if_pos hwant] at h
      refine .inl ?_
      split at h
      · exact Oper.wp_monoQ (Oper.wp_mono (fun a' w' ⟨C', hC', _, ht⟩ => wpList_tx_then hQ l1 _ a' C' w' hC' ht) (h w hw))
      · obtain ⟨v, hy, ht⟩ := h
        have hin := yldK_toIn hy
        rcases hin with ⟨_, hq⟩ | ⟨hn, _⟩
        · exact Oper.wp_of_quiet (C := C) (K := fun a' => a' = a.put o.dst v) hw (fun a' w' hw' e => by subst e; exact wpList_tx_then hQ l1 _ _ C w' hw' ht) ⟨v, hq, rfl⟩
        · rw [hn] at hwant; cases hwant
    · rename_i hwant
      rw [if_neg hwant] at h
      exact wpList_tx_then hQ l1 _ _ C w hw h
/-- What is to be known where a call panics. -/
def PanicAt (P : Program) (n : Nat) (ds : List Deferred) (Q : Exit → Act → World → Prop) (w0 : World) (F0 : Nat → Prop) (c : Call) (f : FuncId) (fo : Operand) (e' : Env) (C' : World → Prop) : Prop :=
  ∃ vs cap L' pre rest post, C' = St w0 F0 L' ∧ e'.op fo = some (.func (.func f) #[] cap) ∧ e'.ops c.args.toList = some vs ∧ Pulls L' pre rest ∧ SpecP P f (vs ++ cap.toList) pre post ∧ ∀ ch M, post ch M → HQ n ds Q (.panic ch) e' (St w0 F0 (M ++ rest))
theorem PanicAt.mk {c : Call} {f : FuncId} {fo : Operand} {vs : List Value} {cap : Array Value} {pre rest : List Asn} {post : List PanicEntry → List Asn → Prop} (h1 : e.op fo = some (.func (.func f) #[] cap)) (h2 : e.ops c.args.toList = some vs) (h3 : Pulls L pre rest) (h4 : SpecP P f (vs ++ cap.toList) pre post) (h5 : ∀ ch M, post ch M → HQ n ds Q (.panic ch) e (St w0 F0 (M ++ rest))) : PanicAt P n ds Q w0 F0 c f fo e (St w0 F0 L) :=
  ⟨vs, cap, L, pre, rest, post, rfl, h1, h2, h3, h4, h5⟩
theorem PanicAt.wp {c : Call} {f : FuncId} {fo : Operand} {o : Oper} (h : PanicAt P n ds Q w0 F0 c f fo e C) (ho : o.op = .call c) (hc : c.callee = .value fo) (he : Enters P f) {a : Act} {w : World} (ha : Has n ds a e) (hC : C w) (next : Act → World → Prop) : o.wp P a w next Q := by
  obtain ⟨vs, cap, L', pre, rest, post, rfl, hf, hvs, hpu, hs, hq⟩ := h
  have hC' : St w0 F0 (pre ++ rest) w := hC.perm hpu.perm
  unfold Oper.wp
  rw [run_call he hc (ha.eval hf) (ha.evals hvs) ho]
  obtain ⟨F1, s1, s2, s3⟩ := hC'.callAt
  have hcall := hs w F1 s1
  have e1 : (vs ++ cap.toList).toArray = vs.toArray ++ cap := by simp
  rw [e1] at hcall
  refine hcall.mono ?_
  rintro en w' ⟨ch, M, rfl, hp, hSt⟩
  exact (hq ch M hp).out a w' ha (s3 M w' hSt)
/-- A region in the order of the text, one of whose calls panics. -/
theorem hc_callP {id : Nat} (l1 : List Oper) {l2 : List Oper} {o : Oper} {c : Call} {f : FuncId} {fo : Operand} (ho : o.op = .call c) (hg : o.guard = none) (hc : c.callee = .value fo) (he : Enters P f)
    (h : HX P n ds (l1 ++ o :: l2).toArray (fun _ => true) (fun _ => false) (PanicAt P n ds Q w0 F0 c f fo) l1 0 e (St w0 F0 L)) :
    HC P n ds (Code.region id (l1 ++ o :: l2).toArray false) Q e (St w0 F0 L) := ⟨fun a w ha hC => by
  refine wp_region_lit ?_
  refine wpList_tx_then (ev := fun _ => true) (wk := fun _ => false) (K := fun a' C' => ∃ e', Has n ds a' e' ∧ PanicAt P n ds Q w0 F0 c f fo e' C') ?_ l1 0 a (St w0 F0 L) w hC (h.out a ha)
  rintro a' C' w' hC' ⟨e', h1, h2⟩
  unfold wpList
  rw [if_pos (by simp [Region.wanted, hg])]
  exact .inl (h2.wp ho hc he h1 hC' _)⟩
/-- A region in the order of the text, that ends with a panic. -/
theorem hc_panic {id : Nat} (l1 : List Oper) {l2 : List Oper} {o : Oper} {x : Operand} (ho : o.op = .panic x) (hg : o.guard = none)
    (h : HX P n ds (l1 ++ o :: l2).toArray (fun _ => true) (fun _ => false) (fun e' C' => ∃ t v, e'.op x = some (.iface t v) ∧ HQ n ds Q (.panic [{ v := .iface t v, recovered := false }]) e' C') l1 0 e C) :
    HC P n ds (Code.region id (l1 ++ o :: l2).toArray false) Q e C := ⟨fun a w ha hC => by
  refine wp_region_lit ?_
  refine wpList_tx_then (ev := fun _ => true) (wk := fun _ => false) (K := fun a' C' => ∃ e', Has n ds a' e' ∧ ∃ t v, e'.op x = some (.iface t v) ∧ HQ n ds Q (.panic [{ v := .iface t v, recovered := false }]) e' C') ?_ l1 0 a C w hC (h.out a ha)
  rintro a' C' w' hC' ⟨e', h1, t, v, h2, h3⟩
  unfold wpList
  rw [if_pos (by simp [Region.wanted, hg])]
  refine .inl ?_
  unfold Oper.wp
  have : (execOp a'.eval o).run P w' = .halt (.panic (.iface t v)) w' := by
    simp [execOp, ho, h1.eval h2, Instr.panic]
  rw [this]
  exact h3.out a' w' h1 hC'⟩
def listedTo (n i : Nat) : Array Bool := ((List.range n).map fun j => decide (j < i)).toArray
def chkQ (ops : Array Oper) (m : Nat) : Bool := Region.noSelect ops && Nat.beq ops.size (m + 1) && ((List.range m).all fun i => match ops[i]? with
    | some o => Region.free .any ops (listedTo (m + 1) i) i && (Region.ready .any ops (listedTo (m + 1) i)).contains i && (pureB o.op || !callB o.op)
    | none => false) && (Region.ready .any ops (listedTo (m + 1) m) == [m])
theorem listedTo_set {n i : Nat} (h : i < n) : (listedTo n i).setIfInBounds i true = listedTo n (i + 1) := by
  apply Array.ext_getElem?
  intro j
  rw [Array.getElem?_setIfInBounds]
  simp only [listedTo, List.getElem?_toArray, List.getElem?_map, List.size_toArray, List.length_map, List.length_range]
  by_cases hij : i = j
  · subst hij
    rw [if_pos rfl, if_pos h, List.getElem?_range h]
    simp
  · rw [if_neg hij]
    by_cases hj : j < n
    · rw [List.getElem?_range hj]
      simp only [Option.map_some, Option.some.injEq, decide_eq_decide]
      omega
    · rw [List.getElem?_eq_none (by simp; omega)]
      rfl
theorem wpAnyH_quiet {ops : Array Oper} {m : Nat} {o : Oper} (hB : chkQ ops m = true) (hom : ops[m]? = some o) (hg : o.guard = none) {K : Act → (World → Prop) → Prop}
    (hQ : ∀ c a w d v, Q (.panic c) (Act.put a d v) w → Q (.panic c) a w) (hK : ∀ a w, C w → K a C → o.wp P a w (fun _ _ => False) Q) :
    ∀ (l' : List Oper) (k : Nat) (a : Act) (w : World), k + l'.length = m → (∀ j, j < l'.length → l'[j]? = ops[k + j]?) → C w → TX P ops (fun _ => false) (fun _ => false) K l' k a C → wpAnyH P .any ops Q C (l'.length + 1) (listedTo (m + 1) k) a w := by
  have hB' := hB
  simp only [chkQ, Bool.and_eq_true, List.all_eq_true, List.mem_range, beq_iff_eq] at hB'
  obtain ⟨⟨⟨hs, hsz⟩, hall⟩, hlast⟩ := hB'
  intro l'
  induction l' with
  | nil =>
    intro k a w hk _ hC h
    simp only [List.length_nil, Nat.add_zero] at hk
    subst hk
    refine wpAnyH_all hlast (by simp) (fun i hi => ?_)
    obtain rfl : i = k := by simpa using hi
    unfold wpOp
    simp only [hom]
    rw [if_pos (by simp [Region.wanted, hg])]
    refine .inl (Oper.wp_mono ?_ (hK a w hC h))
    intro a' w' hf
    exact hf.elim
  | cons oi l' ih =>
    intro k a w hk hl hC h
    simp only [List.length_cons] at hk ⊢
    have h0 : ops[k]? = some oi := by have := hl 0 (by simp); simpa using this.symm
    have hkm := hall k (by omega)
    rw [h0] at hkm
    simp only [Bool.and_eq_true, Bool.or_eq_true, Bool.not_eq_true'] at hkm
    obtain ⟨⟨hf, hr⟩, hcb⟩ := hkm
    have next : ∀ (v : Value) (a : Act), TX P ops (fun _ => false) (fun _ => false) K l' (k + 1) (a.put oi.dst v) C → wpAnyH P .any ops Q C (l'.length + 1) ((listedTo (m + 1) k).setIfInBounds k true) (a.put oi.dst v) w := fun v a ht => by
      rw [listedTo_set (by omega)]
      refine ih (k + 1) _ w (by omega) (fun j hj => ?_) hC ht
      have := hl (j + 1) (by simp; omega)
      simpa [Nat.add_assoc, Nat.add_comm 1 j] using this
    simp only [TX] at h
    by_cases hw : Region.wanted oi (yielded ops a.tmps) = true
    · rw [if_pos hw] at h
      simp only [Bool.false_eq_true, if_false] at h
      obtain ⟨v, hy, ht⟩ := h
      have hy' : YieldsIf P ops C oi v a := by
        unfold YldK at hy
        split at hy
        · exact yldIf_sub (fun _ _ => trivial) hy
        · rename_i hnp
          rw [if_neg (by simp [hcb.resolve_left hnp])] at hy
          exact hy
      exact wpAnyH_take h0 hs hf hr (fun c a w h => hQ c a w _ _ h) hy' hC (next v a ht)
    · rw [if_neg hw] at h
      exact wpAnyH_take (v := undef) h0 hs hf hr (fun c a w h => hQ c a w _ _ h) (.inr ⟨by simpa using hw, rfl⟩) hC (next undef a h)
theorem hc_drawP {id : Nat} (l1 : List Oper) {o : Oper} {c : Call} {f : FuncId} {fo : Operand} (ho : o.op = .call c) (hg : o.guard = none) (hc : c.callee = .value fo) (he : Enters P f) (hm : P.follows .mixedOrders = true) (hB : chkQ (l1 ++ [o]).toArray l1.length = true)
    (hQ : ∀ c a w d v, Q (.panic c) (Act.put a d v) w → Q (.panic c) a w)
    (h : HX P n ds (l1 ++ [o]).toArray (fun _ => false) (fun _ => false) (fun e' C' => C' = St w0 F0 L → PanicAt P n ds Q w0 F0 c f fo e' C') l1 0 e (St w0 F0 L)) :
    HC P n ds (Code.region id (l1 ++ [o]).toArray true) Q e (St w0 F0 L) := ⟨fun a w ha hC => by
  refine wp_region_held (S := St w0 F0 L) hm ?_
  have e0 : (l1 ++ [o]).toArray.size = l1.length + 1 := by simp
  have e1 : Array.replicate (l1 ++ [o]).toArray.size false = listedTo (l1.length + 1) 0 := by
    rw [e0]
    apply Array.ext_getElem?
    intro j
    simp only [listedTo, List.getElem?_toArray, List.getElem?_map, Array.getElem?_replicate]
    by_cases hj : j < l1.length + 1
    · rw [if_pos hj, List.getElem?_range hj]; simp
    · rw [if_neg hj, List.getElem?_eq_none (by simp; omega)]; rfl
  rw [e1, e0]
  refine wpAnyH_quiet (C := St w0 F0 L) (K := fun a' C' => ∃ e', Has n ds a' e' ∧ (C' = St w0 F0 L → PanicAt P n ds Q w0 F0 c f fo e' C')) hB (by simp) hg hQ ?_ l1 0 a _ (by simp) (fun j hj => ?_) (hC.same (.drew w _ _)) (h.out a ha)
  · rintro a' w' hC' ⟨e', h1, h2⟩
    exact (h2 rfl).wp ho hc he h1 hC' _
  · simp only [Nat.zero_add, List.getElem?_toArray]
    rw [List.getElem?_append_left hj]⟩
def bodyP (w : World) (F : Nat → Prop) (post : List PanicEntry → List Asn → Prop) : Ending → World → Prop := fun en w' => ∃ ch M, en = .panicked ch ∧ post ch M ∧ St w F M w'
theorem specP_of {f : FuncId} {fn : Func} {c : Code} {args : List Value} {pre : List Asn} {post : List PanicEntry → List Asn → Prop} (hf : P.funcs[f]? = some fn) (hb : fn.body = some c) (hn : fn.ntmps = n) (hlen : args.length ≤ n)
    (h : ∀ w F, HC P n [] c (bodyPost P fn (bodyP w F post)) (envOf 0 args) (St w F pre)) : SpecP P f args pre post := fun w F hs => by
  refine calls_of_wp hf hb ((h w F).out _ _ ⟨?_, rfl, fun k v hk => ?_⟩ (.start hs))
  · simp [hn]; omega
  · obtain ⟨_, h2⟩ := envOf_get _ _ _ _ hk
    have hlt : k - 0 < args.length := by
      rcases Nat.lt_or_ge (k - 0) args.length with h | h
      · exact h
      · simp only [Nat.sub_zero] at h h2; rw [List.getElem?_eq_none h] at h2; cases h2
    have hlt' : k < args.length := by omega
    rw [Nat.sub_zero] at h2
    rw [Array.getElem?_append_left (by simpa using hlt')]
    simpa using h2
theorem hq_pan {fn : Func} {post : List PanicEntry → List Asn → Prop} {M : List Asn} (hp : post ch M) (hst : ∀ w, St w0 F0 L w → St w0 F0 M w) : HQ n [] (bodyPost P fn (bodyP w0 F0 post)) (.panic ch) e (St w0 F0 L) :=
  ⟨fun _ w ha hC => ⟨ha.defers, ch, M, rfl, hp, hst w hC⟩⟩
theorem panQ {fn : Func} {R : Ending → World → Prop} : ∀ (c : List PanicEntry) (a : Act) (w : World) (d : Option Tmp) (v : Value), bodyPost P fn R (.panic c) (Act.put a d v) w → bodyPost P fn R (.panic c) a w := fun c a w d v h => by
  obtain ⟨h1, h2⟩ := h
  refine ⟨?_, h2⟩
  cases d <;> exact h1
theorem panQ_then {K : Act → World → Prop} (h : ∀ c a w d v, Q (.panic c) (Act.put a d v) w → Q (.panic c) a w) : ∀ (c : List PanicEntry) (a : Act) (w : World) (d : Option Tmp) (v : Value), Exit.then K Q (.panic c) (Act.put a d v) w → Exit.then K Q (.panic c) a w := h
theorem start_has {fn : Func} {args : List Value} (hn : fn.ntmps = n) (hlen : args.length ≤ n) : Has n [] { tmps := args.toArray ++ Array.replicate (fn.ntmps - args.toArray.size) undef, defers := [] } (envOf 0 args) := by
  refine ⟨by simp [hn]; omega, rfl, fun k v hk => ?_⟩
  obtain ⟨_, h2⟩ := envOf_get _ _ _ _ hk
  have hlt : k - 0 < args.length := by
    rcases Nat.lt_or_ge (k - 0) args.length with h | h
    · exact h
    · simp only [Nat.sub_zero] at h h2; rw [List.getElem?_eq_none h] at h2; cases h2
  have hlt' : k < args.length := by omega
  rw [Nat.sub_zero] at h2
  show (args.toArray ++ _)[k]? = _
  rw [Array.getElem?_append_left (by simpa using hlt')]
  simpa using h2
theorem specI_of {f : FuncId} {fn : Func} {c : Code} {args : List Value} {pre : List Asn} {post : Value → List Asn → Prop} (hf : P.funcs[f]? = some fn) (hb : fn.body = some c) (hn : fn.ntmps = n) (hlen : args.length ≤ n)
    (h : ∀ w F, Glo l g w → (∀ b, F b → g ≤ b) → HC P n [] c (bodyPost P fn (bodyR w F post)) (envOf 0 args) (St w F pre)) : SpecI P l g f args pre post := fun w F hs hI hF =>
  calls_of_wp hf hb ((h w F hI hF).out _ _ (start_has hn hlen) (.start hs))
theorem specI_ofD {f : FuncId} {fn : Func} {c : Code} {args : List Value} {pre : List Asn} {post : Value → List Asn → Prop} (hf : P.funcs[f]? = some fn) (hb : fn.body = some c) (hn : fn.ntmps = n) (hlen : args.length ≤ n)
    (h : ∀ w F, Glo l g w → (∀ b, F b → g ≤ b) → HC P n [] c (bodyPostD P fn (bodyR w F post)) (envOf 0 args) (St w F pre)) : SpecI P l g f args pre post := fun w F hs hI hF =>
  calls_of_wp_defers hf hb ((h w F hI hF).out _ _ (start_has hn hlen) (.start hs))
/-- The function panics; the deferred call recovers. -/
theorem hq_panD1 (hI : Glo l g w0) (hF : ∀ b, F0 b → g ≤ b) {fn : Func} {f : FuncId} {vs : List Value} {cap : Array Value} {pre rest : List Asn} {postf post : Value → List Asn → Prop} {x1 : ResultVar} (hr : fn.results = #[x1]) (he : Enters P f) (hpu : Pulls L pre rest) (hs : SpecDP P l g f (vs ++ cap.toList) ch pre postf)
    (h : ∀ v M, postf v M → ∃ v1 M', RVal P e (M ++ rest) x1 v1 ∧ post v1 M' ∧ ∀ w, St w0 F0 (M ++ rest) w → St w0 F0 M' w) :
    HQ n [defOf f cap vs] (bodyPostD P fn (bodyR w0 F0 post)) (.panic ch) e (St w0 F0 L) := ⟨fun a w ha hC => by
  have hC' : St w0 F0 (pre ++ rest) w := hC.perm hpu.perm
  show Leaves P fn a.tmps (bodyR w0 F0 post) a.defers (.panicking ch) w
  rw [ha.defers]
  have hi : (invoke (.fn (.func f) cap) vs.toArray).run P w = .ok (.enter f (vs.toArray ++ cap)) w := by
    simp only [invoke]
    exact he _ _
  refine leaves_cons (by simp) hi ?_
  obtain ⟨F1, s1, s2, s3⟩ := hC'.callAt
  have hcall := hs w F1 s1 (hC.glo hI hF) (glo_pre hI hF s2)
  have e1 : (vs ++ cap.toList).toArray = vs.toArray ++ cap := by simp
  rw [e1] at hcall
  refine hcall.mono ?_
  rintro en u w' ⟨hu, v, M, rfl, hp, hSt⟩
  have hst := s3 M w' hSt
  obtain ⟨v1, M', r1, r2, r3⟩ := h v M hp
  show Leaves P fn a.tmps (bodyR w0 F0 post) [] (settle u) w'
  rw [hu]
  exact ⟨v1, results1 hr r1 ha hst, v1, M', rfl, r2, r3 w' hst⟩⟩
/-- A deferred function that begins with recover(), where there is something to be recovered. -/
theorem specDP_recover {f : FuncId} {fn : Func} {id : Nat} {o : Oper} {rest : Code} {args : List Value} {V : Value} {pre : List Asn} {post : Value → List Asn → Prop} {t : Nat} (hf : P.funcs[f]? = some fn) (hb : fn.body = some (Code.seq (Code.region id #[o] false) rest)) (hn : fn.ntmps = n) (hlen : args.length ≤ n)
    (ho : o.op = .call { callee := .builtin .recover, args := #[], argTypes := #[] }) (hg : o.guard = none) (hdst : o.dst = some t) (ht : okD n (some t) = true)
    (h : ∀ w F, Glo l g w → (∀ b, F b → g ≤ b) → HC P n [] rest (bodyPost P fn (bodyR w F post)) ((t, V) :: envOf 0 args) (St w F pre)) : SpecDP P l g f args [{ v := V, recovered := false }] pre post := fun w F hs hI hF => by
  refine callsD_of_wpS hf hb (fun c0 cs hu => ?_)
  apply wpS_seq
  apply wpS_region
  obtain ⟨a0, ha0⟩ : ∃ a0 : Act, a0 = { tmps := args.toArray ++ Array.replicate (fn.ntmps - args.toArray.size) undef, defers := [] } := ⟨_, rfl⟩
  have hhas : Has n [] a0 (envOf 0 args) := by
    subst ha0
    exact start_has hn hlen
  rw [← ha0]
  have hrun : (execOp a0.eval o).run P w = .ok .recover w := by
    simp [execOp, ho, resolve, invoke, builtin]
  have hrec : recoverD (c0 :: cs) = some (V, { c0 with mode := .panicking [{ v := V, recovered := true }] } :: cs) := by simp [recoverD, hu]
  have hw : Region.wanted o (yielded #[o] a0.tmps) = true := by simp [Region.wanted, hg]
  show wpOpsS P #[o] _ [0] a0 (c0 :: cs) w
  simp only [wpOpsS]
  have h0 : (#[o] : Array Oper)[0]? = some o := rfl
  simp only [h0, hw, if_true, hrun, hrec]
  have ha' : Has n [] (a0.put o.dst V) ((t, V) :: envOf 0 args) := by rw [hdst]; exact hhas.put ht _
  refine wpS_of_wp (wp_mono ((h w F hI hF).out _ w ha' (.start hs)) ?_)
  intro ex a' w' hq
  cases ex with
  | normal =>
    obtain ⟨h1, v, h2, h3⟩ := hq
    exact ⟨h1, .panicking [{ v := V, recovered := true }], rfl, v, h2, rfl, h3⟩
  | ret =>
    obtain ⟨h1, v, h2, h3⟩ := hq
    exact ⟨h1, .panicking [{ v := V, recovered := true }], rfl, v, h2, rfl, h3⟩
  | panic ch =>
    obtain ⟨_, v, M, h1, _⟩ := hq
    cases h1
  | outgrown =>
    obtain ⟨v, M, h1, _⟩ := hq
    cases h1
  | exit id => exact hq.elim
  | goto l => exact hq.elim
end
end Go.Proofs.YtfolhmlldoepfaaGreatDoor
