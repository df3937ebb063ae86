import Derived.Test.YtbfmmgbfliebhaaEngT
namespace Go.Proofs.Ytbfmmgbfliebhaa
open Go

/-! ### Two events of which either may come first -/
section
variable {P : Program} {ev wk : Nat → Bool}
/-- Steps that are no events; what is listed after them. -/
def chkR (ops : Array Oper) (ev wk : Nat → Bool) : List Nat → Array Bool → Bool
  | [], _ => true
  | i :: ls, listed => !ev i && okB ops ev wk listed i && chkR ops ev wk ls (listed.setIfInBounds i true)
def listA : List Nat → Array Bool → Array Bool
  | [], listed => listed
  | i :: ls, listed => listA ls (listed.setIfInBounds i true)
theorem wpAnyE_pre {ops : Array Oper} {evp wkp : Nat → Bool} {K K0 : Act → (World → Prop) → Prop} {m : Nat} (hs : Region.noSelect ops = true) : ∀ (l : List (Nat × Oper)) (q : Nat) (listed : Array Bool) (a : Act) (C : World → Prop), Closed ops listed →
    (∀ j p, l[j]? = some p → ops[p.1]? = some p.2 ∧ evp (q + j) = false) →
    chkR ops ev wk (l.map (·.1)) listed = true → TX P ops evp wkp K0 (l.map (·.2)) q a C →
    (∀ a C, Closed ops (listA (l.map (·.1)) listed) → K0 a C → wpAnyE P ops ev wk K m (listA (l.map (·.1)) listed) a C) → wpAnyE P ops ev wk K (l.length + m) listed a C
  | [], _, _, _, _, hcl, _, _, h, hk => by
    rw [List.length_nil, Nat.zero_add]
    exact hk _ _ hcl h
  | (k, o) :: l, q, listed, a, C, hcl, hl, hB, h, hK => by
    obtain ⟨h0, q1⟩ := hl 0 (k, o) rfl
    rw [Nat.add_zero] at q1
    dsimp only at h0 q1
    have hl' : ∀ j p, l[j]? = some p → ops[p.1]? = some p.2 ∧ evp (q + 1 + j) = false := fun j p hj => by
      have := hl (j + 1) p (by simpa using hj)
      rwa [Nat.add_assoc, Nat.add_comm 1 j]
    simp only [List.map_cons, chkR, Bool.and_eq_true, Bool.not_eq_true'] at hB
    obtain ⟨⟨hek, hok⟩, hB'⟩ := hB
    simp only [okB, h0, hek] at hok
    simp only [List.map_cons, TX, q1] at h
    simp only [Bool.and_eq_true, List.all_eq_true, List.mem_range, Bool.or_eq_true, Bool.not_eq_true', if_neg Bool.false_ne_true] at hok
    obtain ⟨⟨hr, hf⟩, hh⟩ := hok
    have hkr : k ∈ Region.ready .any ops listed := by simpa using hr
    have hhold : ∀ j, j < ops.size → listed.getD j true = false → ev j = true → waitsB ops ops.size j k = true ∨ pureB o.op = true ∨ (wk j = true ∧ callB o.op = false) := by
      intro j hj hun hej
      rcases hh j hj with (((h1 | h1) | h1) | h1) | h1
      · rw [hun] at h1; cases h1
      · rw [hej] at h1; cases h1
      · exact .inl h1
      · exact .inr (.inl h1)
      · exact .inr (.inr h1)
    have hlen : ((k, o) :: l).length + m = (l.length + m) + 1 := by rw [List.length_cons]; omega
    rw [hlen]
    by_cases hwant : Region.wanted o (yielded ops a.tmps) = true
    · rw [if_pos hwant, if_neg Bool.false_ne_true] at h
      obtain ⟨v, hy, ht⟩ := h
      exact wpAnyE_first h0 hek (Region.noSelect_spec hs) (l.length + m) listed a C hcl (Region.free_spec h0 hf) hhold hkr hy
        (wpAnyE_pre hs l _ _ _ C (hcl.set hkr) hl' hB' ht hK)
    · rw [if_neg hwant] at h
      refine wpAnyE_first (v := undef) h0 hek (Region.noSelect_spec hs) (l.length + m) listed a C hcl (Region.free_spec h0 hf) hhold hkr ?_
        (wpAnyE_pre hs l _ _ _ C (hcl.set hkr) hl' hB' h hK)
      have hw0 : Region.wanted o (yielded ops a.tmps) = false := by simpa using hwant
      unfold YldK
      split
      · exact .inr ⟨hw0, rfl⟩
      · split
        · exact .inr ⟨hw0, rfl⟩
        · exact .inr ⟨hw0, rfl⟩
/-- One of the two events, the rest after it. -/
theorem wpOp_ev {ops : Array Oper} {evp wkp : Nat → Bool} {K : Act → (World → Prop) → Prop} (hs : Region.noSelect ops = true) {i : Nat} {oi : Oper} {l : List (Nat × Oper)} {listed : Array Bool} {a : Act} {C : World → Prop} (hcl : Closed ops listed) (hi : ops[i]? = some oi) (he : evp 0 = true) (hw : wkp 0 = wk i) (hr : i ∈ Region.ready .any ops listed)
    (hl : ∀ j p, l[j]? = some p → ops[p.1]? = some p.2 ∧ evp (1 + j) = ev p.1 ∧ wkp (1 + j) = wk p.1) (hB : chkO ops ev wk (l.map (·.1)) (listed.setIfInBounds i true) = true) (h : TX P ops evp wkp K (oi :: l.map (·.2)) 0 a C) :
    ∀ w, C w → wpOp P ops QN i (fun a' w' => ∃ C' : World → Prop, C' w' ∧ (wk i = true → ∀ x, C' x → C x) ∧ wpAnyE P ops ev wk K l.length (listed.setIfInBounds i true) a' C') a w := by
  intro w hC
  simp only [TX, he, hw] at h
  unfold wpOp
  simp only [hi]
  split
  · rename_i hwant
    rw [if_pos hwant, if_pos trivial] at h
    refine .inl (Oper.wp_mono ?_ (h w hC))
    rintro a' w' ⟨C', hC', hwk, ht⟩
    exact ⟨C', hC', hwk, wpAnyE_txO hs l 1 _ a' C' (hcl.set hr) hl hB ht⟩
  · rename_i hwant
    rw [if_neg hwant] at h
    exact ⟨C, hC, fun _ _ h => h, wpAnyE_txO hs l 1 _ _ C (hcl.set hr) hl hB h⟩
theorem getD_ops {l : List Oper} {i : Nat} (hi : i < l.length) : l.toArray[i]? = some (l.getD i default) := by
  rw [List.getD_eq_getElem?_getD, List.getElem?_eq_getElem hi]
  simp [hi]
theorem ord_get {l : List Oper} {f : Nat → Bool} {o1 : List Nat} {i : Nat} (hlt : o1.all (fun i => decide (i < l.length)) = true) : ∀ (j : Nat) (p : Nat × Oper), (o1.map fun i => (i, l.getD i default))[j]? = some p → l.toArray[p.1]? = some p.2 ∧ f ((i :: o1).getD (1 + j) 0) = f p.1 := fun j p hj => by
  rw [List.getElem?_map] at hj
  cases ho : o1[j]? with
  | none => rw [ho] at hj; cases hj
  | some x =>
    rw [ho] at hj
    injection hj with hj
    subst hj
    have hi : x < l.length := by simpa using List.all_eq_true.1 hlt x (List.mem_of_getElem? ho)
    refine ⟨getD_ops hi, ?_⟩
    show f ((i :: o1).getD (1 + j) 0) = f x
    rw [Nat.add_comm 1 j, List.getD_cons_succ, List.getD_eq_getElem?_getD, ho]
    rfl
theorem wp_region_fork {id : Nat} {Q : Exit → Act → World → Prop} {a : Act} {w : World} {l : List Oper} {C : World → Prop} (o0 : List Nat) (i j : Nat) (o1 o2 : List Nat) (hm : P.follows .mixedOrders = true)
    (hB : (Region.noSelect l.toArray && (o0.all (fun i => decide (i < l.length)) && ((i :: o1).all (fun i => decide (i < l.length)) && ((j :: o2).all (fun i => decide (i < l.length)) && (chkR l.toArray ev wk o0 (Array.replicate l.length false) && (Region.ready .any l.toArray (listA o0 (Array.replicate l.length false)) == [i, j] && (ev i && (ev j && (chkO l.toArray ev wk o1 ((listA o0 (Array.replicate l.length false)).setIfInBounds i true) && chkO l.toArray ev wk o2 ((listA o0 (Array.replicate l.length false)).setIfInBounds j true)))))))))) = true)
    (hn1 : o0.length + (o1.length + 1) = l.length) (hn2 : o2.length = o1.length) (hC : C { w with drawn := w.drawn + 1 })
    (h : TX P l.toArray (fun _ => false) (fun _ => false) (fun a C => TX P l.toArray (fun k => ev ((i :: o1).getD k 0)) (fun k => wk ((i :: o1).getD k 0)) (fun a' C' => ∀ w', C' w' → Q .normal a' w') ((i :: o1).map fun i => l.getD i default) 0 a C ∧ TX P l.toArray (fun k => ev ((j :: o2).getD k 0)) (fun k => wk ((j :: o2).getD k 0)) (fun a' C' => ∀ w', C' w' → Q .normal a' w') ((j :: o2).map fun i => l.getD i default) 0 a C) (o0.map fun i => l.getD i default) 0 a C) : (Code.region id l.toArray true).wp P Q a w := by
  simp only [Bool.and_eq_true] at hB
  obtain ⟨hs, h0, h1, h2, hR, hr, hi, hj, hO1, hO2⟩ := hB
  refine wp_region_any hm (wpAny_of_E (ev := ev) (wk := wk) (K := fun a' C' => ∀ w', C' w' → Q .normal a' w') (fun _ _ w hw h => h w hw) _ _ _ C _ hC ?_)
  have e0 : (fun x : Nat × Oper => x.1) ∘ (fun i => (i, l.getD i default)) = _root_.id := rfl
  have hready : Region.ready .any l.toArray (listA o0 (Array.replicate l.length false)) = [i, j] := by simpa using hr
  have hir : i ∈ Region.ready .any l.toArray (listA o0 (Array.replicate l.length false)) := by rw [hready]; simp
  have hjr : j ∈ Region.ready .any l.toArray (listA o0 (Array.replicate l.length false)) := by rw [hready]; simp
  have hil : i < l.length := by simpa using List.all_eq_true.1 h1 i List.mem_cons_self
  have hjl : j < l.length := by simpa using List.all_eq_true.1 h2 j List.mem_cons_self
  have h1' : o1.all (fun i => decide (i < l.length)) = true := List.all_eq_true.2 fun x hx => List.all_eq_true.1 h1 x (List.mem_cons_of_mem _ hx)
  have h2' : o2.all (fun i => decide (i < l.length)) = true := List.all_eq_true.2 fun x hx => List.all_eq_true.1 h2 x (List.mem_cons_of_mem _ hx)
  have hmap : ∀ o : List Nat, (o.map fun i => (i, l.getD i default)).map (·.1) = o := fun o => by rw [List.map_map]; exact List.map_id _
  have hmap2 : ∀ o : List Nat, (o.map fun i => (i, l.getD i default)).map (·.2) = o.map fun i => l.getD i default := fun o => by rw [List.map_map]; rfl
  have hgo := wpAnyE_pre (P := P) (ops := l.toArray) (ev := ev) (wk := wk) (K := fun a' C' => ∀ w', C' w' → Q .normal a' w') (m := o1.length + 1) (evp := fun _ => false) (wkp := fun _ => false) hs (o0.map fun i => (i, l.getD i default)) 0 (Array.replicate l.toArray.size false) a C (closed_none _ _)
    (fun k p hk => by
      rw [List.getElem?_map] at hk
      cases ho : o0[k]? with
      | none => rw [ho] at hk; cases hk
      | some x =>
        rw [ho] at hk
        injection hk with hk
        subst hk
        exact ⟨getD_ops (by simpa using List.all_eq_true.1 h0 x (List.mem_of_getElem? ho)), rfl⟩)
    (by rw [hmap]; simpa using hR) (by rw [hmap2]; exact h)
    (fun a C hcl ht => by
      obtain ⟨t1, t2⟩ := ht
      rw [hmap, List.size_toArray] at hcl ⊢
      refine ⟨fun he => (by rw [hready] at he; cases he), fun k hk => ?_⟩
      rw [hready] at hk
      rcases List.mem_cons.1 hk with rfl | hk
      · rw [if_pos hi]
        have := wpOp_ev (P := P) (ev := ev) (wk := wk) hs hcl (getD_ops hil) hi rfl hir (l := o1.map fun i => (i, l.getD i default)) (fun x p hp => ⟨(ord_get (f := ev) (i := k) h1' x p hp).1, (ord_get (f := ev) h1' x p hp).2, (ord_get (f := wk) h1' x p hp).2⟩) (by rw [hmap]; exact hO1) (by rw [hmap2]; exact t1)
        rw [List.length_map] at this
        exact this
      · obtain rfl : k = j := by simpa using hk
        rw [if_pos hj]
        have := wpOp_ev (P := P) (ev := ev) (wk := wk) hs hcl (getD_ops hjl) hj rfl hjr (l := o2.map fun i => (i, l.getD i default)) (fun x p hp => ⟨(ord_get (f := ev) (i := k) h2' x p hp).1, (ord_get (f := ev) h2' x p hp).2, (ord_get (f := wk) h2' x p hp).2⟩) (by rw [hmap]; exact hO2) (by rw [hmap2]; exact t2)
        rw [List.length_map, hn2] at this
        exact this)
  rw [List.length_map, hn1] at hgo
  simpa using hgo
end
section
variable {P : Program} {n : Nat} {ds : List Deferred} {Q : Exit → Act → World → Prop} {e : Env} {w0 : World} {F0 : Nat → Prop} {L : List Asn}
/-- A drawn region in which, after reads, either of two events may come first. -/
theorem hc_fork {id : Nat} {l : List Oper} (ev wk : Nat → Bool) (o0 : List Nat) (i j : Nat) (o1 o2 : List Nat) (hm : P.follows .mixedOrders = true)
    (hB : (Region.noSelect l.toArray && (o0.all (fun i => decide (i < l.length)) && ((i :: o1).all (fun i => decide (i < l.length)) && ((j :: o2).all (fun i => decide (i < l.length)) && (chkR l.toArray ev wk o0 (Array.replicate l.length false) && (Region.ready .any l.toArray (listA o0 (Array.replicate l.length false)) == [i, j] && (ev i && (ev j && (chkO l.toArray ev wk o1 ((listA o0 (Array.replicate l.length false)).setIfInBounds i true) && chkO l.toArray ev wk o2 ((listA o0 (Array.replicate l.length false)).setIfInBounds j true)))))))))) = true)
    (hn1 : o0.length + (o1.length + 1) = l.length) (hn2 : o2.length = o1.length)
    (h : HX P n ds l.toArray (fun _ => false) (fun _ => false) (fun e' C' => HX P n ds l.toArray (fun k => ev ((i :: o1).getD k 0)) (fun k => wk ((i :: o1).getD k 0)) (fun e' C' => HQ n ds Q .normal e' C') ((i :: o1).map fun i => l.getD i default) 0 e' C' ∧ HX P n ds l.toArray (fun k => ev ((j :: o2).getD k 0)) (fun k => wk ((j :: o2).getD k 0)) (fun e' C' => HQ n ds Q .normal e' C') ((j :: o2).map fun i => l.getD i default) 0 e' C') (o0.map fun i => l.getD i default) 0 e (St w0 F0 L)) : HC P n ds (Code.region id l.toArray true) Q e (St w0 F0 L) := ⟨fun a w ha hC => by
  refine wp_region_fork (ev := ev) (wk := wk) (C := St w0 F0 L) o0 i j o1 o2 hm hB hn1 hn2 (hC.same (.drew w _ _)) ?_
  refine tx_mono ?_ _ _ _ _ (h.out a ha)
  rintro a' C' ⟨e', ha', h1, h2⟩
  exact ⟨tx_convO _ _ _ _ (h1.out a' ha'), tx_convO _ _ _ _ (h2.out a' ha')⟩⟩
/-- The meeting, where the sequence has been entered. -/
theorem hc_meetT {Y : Type} {x z : Code} (en : Y → Env) (M : Y → List Asn) (ψ : Y → Prop) (h : HC P n ds x (Exit.then (MeetTo n ds w0 F0 en M ψ) Q) e (St w0 F0 L)) (rest : ∀ y, ψ y → HC P n ds z Q (en y) (St w0 F0 (M y))) : HC P n ds x (Exit.then (z.wp P Q) Q) e (St w0 F0 L) :=
  ⟨fun a w ha hC => wp_mono (h.out a w ha hC) fun ex a' w' hq => by
    cases ex with
    | normal =>
      obtain ⟨y, h1, h2, h3⟩ := hq
      exact (rest y h1).out a' w' h2 h3
    | _ => exact hq⟩
end
end Go.Proofs.Ytbfmmgbfliebhaa
