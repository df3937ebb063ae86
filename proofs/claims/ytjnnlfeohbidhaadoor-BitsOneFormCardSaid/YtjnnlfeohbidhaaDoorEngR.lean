import Derived.Test.YtjnnlfeohbidhaaDoorEngQ
namespace Go.Proofs.YtjnnlfeohbidhaaDoor
open Go

/-! ### A drawn region walked in an order of one's own -/
section
variable {P : Program} {ev wk : Nat → Bool}
def chkO (ops : Array Oper) (ev wk : Nat → Bool) : List Nat → Array Bool → Bool
  | [], listed => (Region.ready .any ops listed).isEmpty
  | i :: ls, listed => okB ops ev wk listed i && chkO ops ev wk ls (listed.setIfInBounds i true)

theorem wpAnyE_txO {ops : Array Oper} {evp wkp : Nat → Bool} {K : Act → (World → Prop) → Prop} (hs : Region.noSelect ops = true) : ∀ (l : List (Nat × Oper)) (q : Nat) (listed : Array Bool) (a : Act) (C : World → Prop), Closed ops listed →
    (∀ j p, l[j]? = some p → ops[p.1]? = some p.2 ∧ evp (q + j) = ev p.1 ∧ wkp (q + j) = wk p.1) →
    chkO ops ev wk (l.map (·.1)) listed = true → TX P ops evp wkp K (l.map (·.2)) q a C → wpAnyE P ops ev wk K l.length listed a C
  | [], _, _, _, _, _, _, hB, h => ⟨by simpa [chkO] using hB, h⟩
  | (k, o) :: l, q, listed, a, C, hcl, hl, hB, h => by
    obtain ⟨h0, q1, q2⟩ := hl 0 (k, o) rfl
    rw [Nat.add_zero] at q1 q2
    dsimp only at h0 q1 q2
    have hl' : ∀ j p, l[j]? = some p → ops[p.1]? = some p.2 ∧ evp (q + 1 + j) = ev p.1 ∧ wkp (q + 1 + j) = wk p.1 := fun j p hj => by
      have := hl (j + 1) p (by simpa using hj)
      rwa [Nat.add_assoc, Nat.add_comm 1 j]
    simp only [List.map_cons, chkO, Bool.and_eq_true] at hB
    obtain ⟨hok, hB'⟩ := hB
    simp only [okB, h0] at hok
    simp only [List.map_cons, TX, q1, q2] at h
    by_cases hek : ev k = true
    · rw [if_pos hek] at hok
      have hrd : Region.ready .any ops listed = [k] := by simpa using hok
      have hkr : k ∈ Region.ready .any ops listed := by rw [hrd]; simp
      refine ⟨fun h0 => (by rw [hrd] at h0; cases h0), fun i hi => ?_⟩
      rw [hrd] at hi
      obtain rfl : i = k := by simpa using hi
      rw [if_pos hek]
      intro w hw
      unfold wpOp
      simp only [h0]
      split
      · rename_i hwant
        rw [if_pos hwant, if_pos hek] at h
        refine .inl (Oper.wp_mono ?_ (h w hw))
        rintro a' w' ⟨C', hC', hwk, ht⟩
        exact ⟨C', hC', hwk, wpAnyE_txO hs l _ _ a' C' (hcl.set hkr) hl' hB' ht⟩
      · rename_i hwant
        rw [if_neg hwant] at h
        exact ⟨C, hw, fun _ _ h => h, wpAnyE_txO hs l _ _ _ C (hcl.set hkr) hl' hB' h⟩
    · rw [if_neg hek] at hok
      simp only [Bool.and_eq_true, List.all_eq_true, List.mem_range, Bool.or_eq_true, Bool.not_eq_true'] at hok
      obtain ⟨⟨hr, hf⟩, hh⟩ := hok
      have hkr : k ∈ Region.ready .any ops listed := by simpa using hr
      have hhold : ∀ j, j < ops.size → listed.getD j true = false → ev j = true → waitsB ops ops.size j k = true ∨ pureB o.op = true ∨ (wk j = true ∧ callB o.op = false) := by
        intro j hj hun hej
        rcases hh j hj with (((h1 | h1) | h1) | h1) | h1
        · rw [hun] at h1; cases h1
        · rw [hej] at h1; cases h1
        · exact .inl h1
        · exact .inr (.inl h1)
        · exact .inr (.inr h1)
      by_cases hwant : Region.wanted o (yielded ops a.tmps) = true
      · rw [if_pos hwant, if_neg hek] at h
        obtain ⟨v, hy, ht⟩ := h
        exact wpAnyE_first h0 (by simpa using hek) (Region.noSelect_spec hs) l.length listed a C hcl (Region.free_spec h0 hf) hhold hkr hy
          (wpAnyE_txO hs l _ _ _ C (hcl.set hkr) hl' hB' ht)
      · rw [if_neg hwant] at h
        refine wpAnyE_first (v := undef) h0 (by simpa using hek) (Region.noSelect_spec hs) l.length listed a C hcl (Region.free_spec h0 hf) hhold hkr ?_
          (wpAnyE_txO hs l _ _ _ C (hcl.set hkr) hl' hB' h)
        have hw0 : Region.wanted o (yielded ops a.tmps) = false := by simpa using hwant
        unfold YldK
        split
        · exact .inr ⟨hw0, rfl⟩
        · split
          · exact .inr ⟨hw0, rfl⟩
          · exact .inr ⟨hw0, rfl⟩


theorem wp_region_txO {id : Nat} {Q : Exit → Act → World → Prop} {a : Act} {w : World} {l : List Oper} {C : World → Prop} (ord : List Nat) (hm : P.follows .mixedOrders = true) (hB : (Region.noSelect l.toArray && (ord.all (fun i => decide (i < l.length)) && chkO l.toArray ev wk ord (Array.replicate l.length false))) = true) (hn : ord.length = l.length) (hC : C { w with drawn := w.drawn + 1 })
    (h : TX P l.toArray (fun k => ev (ord.getD k 0)) (fun k => wk (ord.getD k 0)) (fun a' C' => ∀ w', C' w' → Q .normal a' w') (ord.map fun i => l.getD i default) 0 a C) : (Code.region id l.toArray true).wp P Q a w := by
  simp only [Bool.and_eq_true] at hB
  obtain ⟨hB1, hB2, hB3⟩ := hB
  refine wp_region_any hm (wpAny_of_E (ev := ev) (wk := wk) (K := fun a' C' => ∀ w', C' w' → Q .normal a' w') (fun _ _ w hw h => h w hw) _ _ _ C _ hC ?_)
  have hlen : (ord.map fun i => (i, l.getD i default)).length = l.length := by rw [List.length_map, hn]
  have := wpAnyE_txO (P := P) (ops := l.toArray) (ev := ev) (wk := wk) (evp := fun k => ev (ord.getD k 0)) (wkp := fun k => wk (ord.getD k 0)) hB1 (ord.map fun i => (i, l.getD i default)) 0 (Array.replicate l.toArray.size false) a C (closed_none _ _)
    (fun j p hj => by
      rw [List.getElem?_map] at hj
      cases ho : ord[j]? with
      | none => rw [ho] at hj; cases hj
      | some i =>
        rw [ho] at hj
        injection hj with hj
        subst hj
        have hi : i < l.length := by simpa using List.all_eq_true.1 hB2 i (List.mem_of_getElem? ho)
        have hg : ord.getD (0 + j) 0 = i := by rw [Nat.zero_add, List.getD_eq_getElem?_getD, ho]; rfl
        refine ⟨?_, by show ev (ord.getD (0 + j) 0) = ev i; rw [hg], by show wk (ord.getD (0 + j) 0) = wk i; rw [hg]⟩
        show l.toArray[i]? = some (l.getD i default)
        rw [List.getD_eq_getElem?_getD, List.getElem?_eq_getElem hi]
        simp [hi])
    (by
      rw [List.map_map]
      have : ((fun x : Nat × Oper => x.1) ∘ fun i => (i, l.getD i default)) = _root_.id := rfl
      rw [this, List.map_id]
      simpa using hB3)
    (by rw [List.map_map]; exact h)
  rw [hlen] at this
  simpa using this
end
section
variable {P : Program} {n : Nat} {ds : List Deferred} {Q : Exit → Act → World → Prop} {e : Env} {w0 : World} {F0 : Nat → Prop} {L : List Asn}
theorem tx_convO {ops : Array Oper} {ev wk : Nat → Bool} : ∀ (l' : List Oper) (k : Nat) (a : Act) (C : World → Prop), TX P ops ev wk (fun a' C' => ∃ e', Has n ds a' e' ∧ HQ n ds Q .normal e' C') l' k a C → TX P ops ev wk (fun a' C' => ∀ w', C' w' → Q .normal a' w') l' k a C := by
  intro l' k a C h
  have := tx_conv (P := P) (n := n) (ds := ds) (Q := Q) (l := ops.toList) (ev := ev) (wk := wk) l' k a C
  simp only [Array.toArray_toList] at this
  exact this h
theorem hc_drawO {id : Nat} {l : List Oper} (ord : List Nat) (wk : Nat → Bool) (hm : P.follows .mixedOrders = true) (hB : (Region.noSelect l.toArray && (ord.all (fun i => decide (i < l.length)) && chkO l.toArray (evK l.toArray) wk ord (Array.replicate l.length false))) = true) (hn : ord.length = l.length)
    (h : HX P n ds l.toArray (fun k => evK l.toArray (ord.getD k 0)) (fun k => wk (ord.getD k 0)) (fun e' C' => HQ n ds Q .normal e' C') (ord.map fun i => l.getD i default) 0 e (St w0 F0 L)) : HC P n ds (Code.region id l.toArray true) Q e (St w0 F0 L) := ⟨fun a w ha hC => by
  refine wp_region_txO (ev := evK l.toArray) (wk := wk) (C := St w0 F0 L) ord hm hB hn (hC.same (.drew w _ _)) ?_
  exact tx_convO _ _ _ _ (h.out a ha)⟩
end
theorem hc_conv {P : Program} {n : Nat} {ds : List Deferred} {Q : Exit → Act → World → Prop} {e : Env} {c : Code} {C C' : World → Prop} (hc : ∀ w, C w → C' w) (h : HC P n ds c Q e C') : HC P n ds c Q e C := ⟨fun a w ha hC => h.out a w ha (hc w hC)⟩
/-- A box of two cells, whatever they are. -/
def Any2 (b bt : Nat) : Asn := Ex fun x : Value × Value => Blk b (.cells #[x.1, x.2] bt (0, 0))
theorem Any2.mk {b bt : Nat} {u v : Value} {w0 : World} {F0 : Nat → Prop} {L : List Asn} {w : World} (h : St w0 F0 (Blk b (.cells #[u, v] bt (0, 0)) :: L) w) : St w0 F0 (Any2 b bt :: L) w := St.ex.2 ⟨(u, v), h⟩
section
variable {P : Program} {n : Nat} {ds : List Deferred} {ops : Array Oper} {ev wk : Nat → Bool} {K : Env → (World → Prop) → Prop} {r : List Oper} {o : Oper} {k : Nat} {e : Env} {w0 : World} {F0 : Nat → Prop} {L L' : List Asn}
/-- A store there may come ahead of what is read. -/
theorem h_storeAny {t b bt : Nat} {x y : Operand} {u v : Value} (hev : ev k = true) (ho : o.op = .store t x y) (hdst : o.dst = none) (hx : e.op x = some (.pointer (some ⟨b, 0, none⟩))) (hy : e.op y = some (.agg #[u, v])) (hs : SizeOf P t 2)
    (hp : Pull L (Any2 b bt) L') (h1 : u.oneCell' = true) (h2 : v.oneCell' = true)
    (h : HX P n ds ops ev wk K r (k + 1) e (St w0 F0 (Blk b (.cells #[u, v] bt (0, 0)) :: L'))) : HX1 P n ds ops ev wk K o r k e (St w0 F0 L) :=
  hx1_event hev (fun a w ha hC => by
    have hC' := hC.perm hp.perm
    obtain ⟨⟨c1, c2⟩, hC'⟩ := St.ex.1 hC'
    have hb := hC'.blk
    obtain ⟨w', hrun, hbut, hheap⟩ := run_storeAt (P := P) (off := 0) (v := .agg #[u, v]) hb hs rfl (Nat.le_refl _) (fun q hq => by
      have : q = u ∨ q = v := by simpa [Value.cells] using hq
      rcases this with rfl | rfl <;> assumption)
    have hop : (execOp a.eval o).run P w = .ok .skip w' := by
      simp [execOp, ho, ha.eval hx, ha.eval hy, hrun]
    unfold Oper.wp
    rw [hop]
    refine ⟨St w0 F0 (Blk b (.cells #[u, v] bt (0, 0)) :: L'), e, hC'.put hbut (show w'.heap[b]? = some (.cells #[u, v] bt (0, 0)) from hheap), fun _ q hq => ?_, (by rw [hdst]; exact ha), h⟩
    exact (St.ex.2 ⟨(u, v), hq⟩ : St w0 F0 (Any2 b bt :: L') q).perm hp.perm.symm)
end
end Go.Proofs.YtjnnlfeohbidhaaDoor
