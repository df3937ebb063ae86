import Derived.Test.YtjnnlfeohbidhaaDoorEngR
namespace Go.Proofs.YtjnnlfeohbidhaaDoor
open Go

/-! ### Reads that nothing in the region can turn: they yield in a class D that every event keeps -/
section
variable {P : Program} {ops : Array Oper} {ev : Nat → Bool}
def wpAnyD (P : Program) (ops : Array Oper) (ev : Nat → Bool) (D : World → Prop) (K : Act → (World → Prop) → Prop) : Nat → Array Bool → Act → (World → Prop) → Prop
  | 0, listed, a, C => Region.ready .any ops listed = [] ∧ K a C
  | fuel + 1, listed, a, C =>
    (Region.ready .any ops listed = [] → K a C) ∧
    ∀ i ∈ Region.ready .any ops listed,
      if ev i then ∀ w, C w → wpOp P ops QN i (fun a' w' => ∃ C' : World → Prop, C' w' ∧ (∀ x, C' x → D x) ∧ wpAnyD P ops ev D K fuel (listed.setIfInBounds i true) a' C') a w
      else qOp P ops C i (fun a' => wpAnyD P ops ev D K fuel (listed.setIfInBounds i true) a' C) a
theorem wpAny_of_D {D : World → Prop} {K : Act → (World → Prop) → Prop} {Q : Exit → Act → World → Prop} (hQ : ∀ a C w, C w → K a C → Q .normal a w) : ∀ (fuel : Nat) (listed : Array Bool) (a : Act) (C : World → Prop) (w : World), C w →
    wpAnyD P ops ev D K fuel listed a C → wpAny P .any ops Q fuel listed a w
  | 0, _, _, _, _, hw, h => ⟨h.1, hQ _ _ _ hw h.2⟩
  | fuel + 1, _, _, C, w, hw, h => by
    refine ⟨fun h0 => hQ _ _ _ hw (h.1 h0), fun i hi => ?_⟩
    have h1 := h.2 i hi
    split at h1
    · exact wpOp_monoQ (wpOp_mono (fun a' w' ⟨C', hC', _, h'⟩ => wpAny_of_D hQ fuel _ a' C' w' hC' h') (h1 w hw))
    · exact wpOp_of_qOp hw (fun a' w' hw' => wpAny_of_D hQ fuel _ a' C w' hw') h1
theorem yldD_toIn {C D : World → Prop} {o : Oper} {v : Value} {a : Act} (hnc : callB o.op = false) (hd : ∀ w, C w → D w) (h : YldK P ops o v a D) : YieldsIn P ops C o v a := by
  unfold YldK at h
  split at h
  · exact yldIf_toIn (fun _ _ => trivial) h
  · split at h
    · rename_i hc; rw [hnc] at hc; cases hc
    · exact yldIf_toIn hd h
theorem wpAnyD_first {D : World → Prop} {K : Act → (World → Prop) → Prop} {i : Nat} {oi : Oper} {v : Value} (hnc : callB oi.op = false) (hi : ops[i]? = some oi) (hev : ev i = false) (hsel : ∀ (j : Nat) (o : Oper) cs b, ops[j]? = some o → o.op ≠ .select cs b) :
    ∀ (fuel : Nat) (listed : Array Bool) (a : Act) (C : World → Prop), Closed ops listed →
      (∀ j oj, ops[j]? = some oj → j ≠ i → listed.getD j true = false → (∀ e ∈ oj.after, Region.binds .any e = true → e.on ≠ i) → oi.apart ops oj = true) →
      (∀ x, C x → D x) →
      i ∈ Region.ready .any ops listed → YldK P ops oi v a D →
      wpAnyD P ops ev D K fuel (listed.setIfInBounds i true) (a.put oi.dst v) C → wpAnyD P ops ev D K (fuel + 1) listed a C := by
  intro fuel
  induction fuel with
  | zero =>
    intro listed a C _ _ hCD hr hy H
    refine ⟨fun h => (by rw [h] at hr; cases hr), fun j hj => ?_⟩
    by_cases hji : j = i
    · subst hji; rw [if_neg (by simp [hev])]; exact (yldD_toIn hnc hCD hy).qOp hi H
    · have := ready_mono hj hji
      rw [H.1] at this
      cases this
  | succ fuel ih =>
    intro listed a C hcl hfree hCD hr hy H
    refine ⟨fun h => (by rw [h] at hr; cases hr), fun j hj => ?_⟩
    by_cases hji : j = i
    · subst hji; rw [if_neg (by simp [hev])]; exact (yldD_toIn hnc hCD hy).qOp hi H
    · have h1 := H.2 j (ready_mono hj hji)
      obtain ⟨hjun, oj, hoj, hall⟩ := mem_ready.1 hj
      have hiun : listed.getD i false = false := by
        have h0 := (mem_ready.1 hr).1
        rcases Nat.lt_or_ge i listed.size with h' | h'
        · simp [h'] at h0 ⊢; exact h0
        · simp [Array.getElem?_eq_none h'] at h0
      have hnot : ∀ e ∈ oj.after, Region.binds .any e = true → e.on ≠ i := fun e he hb heq => by
        have h1 := hall e he hb
        rw [heq, hiun] at h1; cases h1
      have hap := hfree j oj hoj hji hjun hnot
      have hfree' : ∀ k ok, ops[k]? = some ok → k ≠ i → (listed.setIfInBounds j true).getD k true = false →
          (∀ e ∈ ok.after, Region.binds .any e = true → e.on ≠ i) → oi.apart ops ok = true := fun k ok hk hki hun hno => by
        refine hfree k ok hk hki ?_ hno
        by_cases hjk : j = k
        · subst hjk; exact hjun
        · rw [getD_set_ne true hjk] at hun; exact hun
      obtain ⟨ap1, ap2, ap3⟩ := Oper.apart_spec hap
      have keep : ∀ (a : Act) u, YldK P ops oi v a D → YldK P ops oi v (a.put oj.dst u) D := fun a u hy =>
        yldK_same hy (execOp_put oi (fun cs b => hsel i oi cs b hi) a oj.dst u ap3) (wanted_put oi a oj.dst u ap3)
      by_cases hej : ev j = true
      · rw [if_pos hej] at h1 ⊢
        intro w hw
        have h2 := wpOp_putE (Y := fun a' => YldK P ops oi v a' D) hoj hap (fun cs b => hsel j oj cs b hoj) keep (fun a d hy => yldK_same hy rfl rfl) hy (h1 w hw)
        refine wpOp_mono (fun a' w' ⟨hy', C', hC', hD', h3⟩ => ⟨C', hC', hD', ih (listed.setIfInBounds j true) a' C' (hcl.set hj) hfree' hD' (ready_mono hr (Ne.symm hji)) hy' ?_⟩) h2
        rw [Array.setIfInBounds_comm _ _ hji]
        exact h3
      · rw [if_neg hej] at h1 ⊢
        have h2 := qOp_put hoj hap (fun cs b => hsel i oi cs b hi) (fun cs b => hsel j oj cs b hoj) (yldD_toIn hnc hCD hy) h1
        have h2' : qOp P ops C j (fun a' => YldK P ops oi v a' D ∧ wpAnyD P ops ev D K fuel ((listed.setIfInBounds i true).setIfInBounds j true) (a'.put oi.dst v) C) a := by
          unfold qOp at h2 ⊢
          simp only [hoj] at h2 ⊢
          split at h2
          · rename_i hw
            rw [if_pos hw]
            obtain ⟨u, hu, _, hn⟩ := h2
            exact ⟨u, hu, keep a u hy, hn⟩
          · rename_i hw
            rw [if_neg hw]
            exact ⟨keep a _ hy, h2.2⟩
        refine qOp_mono (fun a' h3 => ih (listed.setIfInBounds j true) a' C (hcl.set hj) hfree' hCD (ready_mono hr (Ne.symm hji)) h3.1 ?_) h2'
        rw [Array.setIfInBounds_comm _ _ hji]
        exact h3.2
/-- The walk, reads under D. -/
def TXD (P : Program) (ops : Array Oper) (ev : Nat → Bool) (D : World → Prop) (K : Act → (World → Prop) → Prop) : List (Nat × Oper) → Act → (World → Prop) → Prop
  | [], a, C => K a C
  | (i, o) :: r, a, C =>
    if Region.wanted o (yielded ops a.tmps) = true then
      if ev i = true then ∀ w, C w → o.wp P a w (fun a' w' => ∃ C' : World → Prop, C' w' ∧ (∀ x, C' x → D x) ∧ TXD P ops ev D K r a' C') QN
      else ∃ v, YldK P ops o v a D ∧ TXD P ops ev D K r (a.put o.dst v) C
    else TXD P ops ev D K r (a.put o.dst undef) C
def okDB (ops : Array Oper) (ev : Nat → Bool) (listed : Array Bool) (i : Nat) : Bool :=
  match ops[i]? with
  | none => false
  | some o => if ev i then Region.ready .any ops listed == [i] else (Region.ready .any ops listed).contains i && (Region.free .any ops listed i && !callB o.op)
def chkD (ops : Array Oper) (ev : Nat → Bool) : List Nat → Array Bool → Bool
  | [], listed => (Region.ready .any ops listed).isEmpty
  | i :: ls, listed => okDB ops ev listed i && chkD ops ev ls (listed.setIfInBounds i true)
theorem wpAnyD_tx {D : World → Prop} {K : Act → (World → Prop) → Prop} (hs : Region.noSelect ops = true) : ∀ (l : List (Nat × Oper)) (listed : Array Bool) (a : Act) (C : World → Prop), Closed ops listed → (∀ x, C x → D x) →
    (∀ p ∈ l, ops[p.1]? = some p.2) →
    chkD ops ev (l.map (·.1)) listed = true → TXD P ops ev D K l a C → wpAnyD P ops ev D K l.length listed a C
  | [], _, _, _, _, _, _, hB, h => ⟨by simpa [chkD] using hB, h⟩
  | (k, o) :: l, listed, a, C, hcl, hCD, hl, hB, h => by
    have h0 : ops[k]? = some o := hl (k, o) (List.mem_cons_self ..)
    have hl' : ∀ p ∈ l, ops[p.1]? = some p.2 := fun p hp => hl p (List.mem_cons_of_mem _ hp)
    simp only [List.map_cons, chkD, Bool.and_eq_true] at hB
    obtain ⟨hok, hB'⟩ := hB
    simp only [okDB, h0] at hok
    simp only [TXD] at h
    by_cases hek : ev k = true
    · rw [if_pos hek] at hok
      have hrd : Region.ready .any ops listed = [k] := by simpa using hok
      have hkr : k ∈ Region.ready .any ops listed := by rw [hrd]; simp
      refine ⟨fun h0 => (by rw [hrd] at h0; cases h0), fun i hi => ?_⟩
      rw [hrd] at hi
      obtain rfl : i = k := by simpa using hi
      rw [if_pos hek]
      intro w hw
      unfold wpOp
      simp only [h0]
      split
      · rename_i hwant
        rw [if_pos hwant, if_pos hek] at h
        refine .inl (Oper.wp_mono ?_ (h w hw))
        rintro a' w' ⟨C', hC', hD', ht⟩
        exact ⟨C', hC', hD', wpAnyD_tx hs l _ a' C' (hcl.set hkr) hD' hl' hB' ht⟩
      · rename_i hwant
        rw [if_neg hwant] at h
        exact ⟨C, hw, hCD, wpAnyD_tx hs l _ _ C (hcl.set hkr) hCD hl' hB' h⟩
    · rw [if_neg hek] at hok
      simp only [Bool.and_eq_true, Bool.not_eq_true'] at hok
      obtain ⟨hr, hf, hnc⟩ := hok
      have hkr : k ∈ Region.ready .any ops listed := by simpa using hr
      by_cases hwant : Region.wanted o (yielded ops a.tmps) = true
      · rw [if_pos hwant, if_neg hek] at h
        obtain ⟨v, hy, ht⟩ := h
        exact wpAnyD_first hnc h0 (by simpa using hek) (Region.noSelect_spec hs) l.length listed a C hcl (Region.free_spec h0 hf) hCD hkr hy
          (wpAnyD_tx hs l _ _ C (hcl.set hkr) hCD hl' hB' ht)
      · rw [if_neg hwant] at h
        refine wpAnyD_first (v := undef) hnc h0 (by simpa using hek) (Region.noSelect_spec hs) l.length listed a C hcl (Region.free_spec h0 hf) hCD hkr ?_
          (wpAnyD_tx hs l _ _ C (hcl.set hkr) hCD hl' hB' h)
        have hw0 : Region.wanted o (yielded ops a.tmps) = false := by simpa using hwant
        unfold YldK
        split
        · exact .inr ⟨hw0, rfl⟩
        · split
          · exact .inr ⟨hw0, rfl⟩
          · exact .inr ⟨hw0, rfl⟩
theorem wp_region_txD {id : Nat} {Q : Exit → Act → World → Prop} {a : Act} {w : World} {l : List Oper} {C D : World → Prop} (ord : List Nat) (hm : P.follows .mixedOrders = true) (hB : (Region.noSelect l.toArray && (ord.all (fun i => decide (i < l.length)) && chkD l.toArray ev ord (Array.replicate l.length false))) = true) (hn : ord.length = l.length) (hC : C { w with drawn := w.drawn + 1 }) (hCD : ∀ x, C x → D x)
    (h : TXD P l.toArray ev D (fun a' C' => ∀ w', C' w' → Q .normal a' w') (ord.map fun i => (i, l.getD i default)) a C) : (Code.region id l.toArray true).wp P Q a w := by
  simp only [Bool.and_eq_true] at hB
  obtain ⟨hB1, hB2, hB3⟩ := hB
  refine wp_region_any hm (wpAny_of_D (ev := ev) (D := D) (K := fun a' C' => ∀ w', C' w' → Q .normal a' w') (fun _ _ w hw h => h w hw) _ _ _ C _ hC ?_)
  have hlen : (ord.map fun i => (i, l.getD i default)).length = l.length := by rw [List.length_map, hn]
  have := wpAnyD_tx (P := P) (ops := l.toArray) (ev := ev) hB1 (ord.map fun i => (i, l.getD i default)) (Array.replicate l.toArray.size false) a C (closed_none _ _) hCD
    (fun p hp => by
      obtain ⟨i, hi, rfl⟩ := List.mem_map.1 hp
      have hi' : i < l.length := by simpa using List.all_eq_true.1 hB2 i hi
      show l.toArray[i]? = some (l.getD i default)
      rw [List.getD_eq_getElem?_getD, List.getElem?_eq_getElem hi']
      simp [hi'])
    (by
      rw [List.map_map]
      have : ((fun x : Nat × Oper => x.1) ∘ fun i => (i, l.getD i default)) = _root_.id := rfl
      rw [this, List.map_id]
      simpa using hB3) h
  rw [hlen] at this
  simpa using this
end
end Go.Proofs.YtjnnlfeohbidhaaDoor
