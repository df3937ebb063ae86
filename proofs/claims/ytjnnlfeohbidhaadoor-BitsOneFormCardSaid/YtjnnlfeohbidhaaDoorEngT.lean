import Derived.Test.YtjnnlfeohbidhaaDoorEngS
namespace Go.Proofs.YtjnnlfeohbidhaaDoor
open Go

/-! ### The walk of such a region on environments -/
section
variable {P : Program} {ops : Array Oper} {ev : Nat → Bool} {D : World → Prop}
theorem txd_mono {K K' : Act → (World → Prop) → Prop} (hK : ∀ a C, K a C → K' a C) : ∀ (l : List (Nat × Oper)) (a : Act) (C : World → Prop), TXD P ops ev D K l a C → TXD P ops ev D K' l a C
  | [], _, _, h => hK _ _ h
  | (i, o) :: l, a, C, h => by
    simp only [TXD] at h ⊢
    split
    · rename_i hw
      rw [if_pos hw] at h
      split
      · rename_i he
        rw [if_pos he] at h
        exact fun w hC => Oper.wp_mono (fun a' w' ⟨C', h1, h2, h3⟩ => ⟨C', h1, h2, txd_mono hK l a' C' h3⟩) (h w hC)
      · rename_i he
        rw [if_neg he] at h
        obtain ⟨v, h1, h2⟩ := h
        exact ⟨v, h1, txd_mono hK l _ C h2⟩
    · rename_i hw
      rw [if_neg hw] at h
      exact txd_mono hK l _ C h
theorem txd_reads {K K1 : Act → (World → Prop) → Prop} {wk : Nat → Bool} {r : List (Nat × Oper)} {C : World → Prop} (hK : ∀ a, K1 a D → TXD P ops ev D K r a C) : ∀ (l : List (Nat × Oper)) (k : Nat) (a : Act), (∀ p ∈ l, ev p.1 = false) →
    TX P ops (fun _ => false) wk K1 (l.map (·.2)) k a D → TXD P ops ev D K (l ++ r) a C
  | [], _, a, _, h => hK a h
  | (i, o) :: l, k, a, he, h => by
    have he0 : ev i = false := he (i, o) (List.mem_cons_self ..)
    have he' : ∀ p ∈ l, ev p.1 = false := fun p hp => he p (List.mem_cons_of_mem _ hp)
    simp only [List.map_cons, TX] at h
    simp only [List.cons_append, TXD]
    split
    · rename_i hw
      rw [if_pos hw, if_neg (by simp)] at h
      obtain ⟨v, h1, h2⟩ := h
      rw [if_neg (by simp [he0])]
      exact ⟨v, h1, txd_reads hK l (k + 1) _ he' h2⟩
    · rename_i hw
      rw [if_neg hw] at h
      exact txd_reads hK l (k + 1) _ he' h
end
structure HD (P : Program) (n : Nat) (ds : List Deferred) (ops : Array Oper) (ev : Nat → Bool) (D : World → Prop) (K : Env → (World → Prop) → Prop) (r : List (Nat × Oper)) (e : Env) (C : World → Prop) : Prop where
  out : ∀ a, Has n ds a e → TXD P ops ev D (fun a' C' => ∃ e', Has n ds a' e' ∧ K e' C') r a C
section
variable {P : Program} {n : Nat} {ds : List Deferred} {ops : Array Oper} {ev : Nat → Bool} {D : World → Prop} {K : Env → (World → Prop) → Prop} {r : List (Nat × Oper)} {e : Env} {C : World → Prop} {w0 : World} {F0 : Nat → Prop} {L : List Asn}
theorem hd_nil (h : K e C) : HD P n ds ops ev D K [] e C := ⟨fun _ ha => ⟨e, ha, h⟩⟩
/-- First what yields under D. -/
theorem hd_reads (l1 : List (Nat × Oper)) (he : (l1.all fun p => !ev p.1) = true) (h : HX P n ds ops (fun _ => false) (fun _ => false) (fun e' _ => HD P n ds ops ev D K r e' C) (l1.map (·.2)) 0 e D) : HD P n ds ops ev D K (l1 ++ r) e C := ⟨fun a ha =>
  txd_reads (fun a' ⟨_, h1, h2⟩ => h2.out a' h1) l1 0 a (fun p hp => by simpa using List.all_eq_true.1 he p hp) (h.out a ha)⟩
theorem hd_call {i : Nat} {o : Oper} {c : Call} {f : FuncId} {fo : Operand} {vs : List Value} {cap : Array Value} {pre rest : List Asn} {post : Value → List Asn → Prop} (hg : o.guard = none) (hev : ev i = true) (ho : o.op = .call c) (hc : c.callee = .value fo) (hf : e.op fo = some (.func (.func f) #[] cap)) (hvs : e.ops c.args.toList = some vs)
    {dd : Nat} (hdst : o.dst = some dd) (hd : okD n (some dd) = true) (he : Enters P f) (hpu : Pulls L pre rest) (hs : Spec P f (vs ++ cap.toList) pre post)
    (hD : ∀ v M, post v M → ∀ x, St w0 F0 (M ++ rest) x → D x)
    (h : ∀ v M, post v M → HD P n ds ops ev D K r ((dd, v) :: e) (St w0 F0 (M ++ rest))) : HD P n ds ops ev D K ((i, o) :: r) e (St w0 F0 L) := ⟨fun a ha => by
  simp only [TXD]
  rw [if_pos (by simp [Region.wanted, hg]), if_pos hev]
  intro w hC
  have hC' : St w0 F0 (pre ++ rest) w := hC.perm hpu.perm
  unfold Oper.wp
  rw [run_call he hc (ha.eval hf) (ha.evals hvs) ho]
  obtain ⟨F, h1, h2, h3⟩ := hC'
  obtain ⟨F1, F2, s1, s2, s3, s4⟩ := h1.tight.split
  have hcall := hs w F1 s1
  have e1 : (vs ++ cap.toList).toArray = vs.toArray ++ cap := by simp
  rw [e1] at hcall
  refine hcall.mono ?_
  rintro en w' ⟨v, M, rfl, hp, hSt⟩
  refine ⟨St w0 F0 (M ++ rest), ?_, hD v M hp, (h v M hp).out _ (by rw [hdst]; exact ha.put hd v)⟩
  obtain ⟨G, g1, g2, g3⟩ := hSt
  have t2 := s2.tight
  refine ⟨fun b => G b ∨ (F2 b ∧ b < w.heap.size), g1.join (t2.loc fun b hb => g2.blk b hb.2 fun hb1 => s3 b hb1 hb.1) (fun b hb hc => ?_) (fun _ h => h), ⟨g2.os.trans h2.os, g2.tape.trans h2.tape, g2.output.trans h2.output, Nat.le_trans h2.size g2.size, fun k hk hn => ?_⟩, fun b hb => ?_⟩
  · rcases g3 b hb with h | h
    · exact s3 b h hc.1
    · exact absurd hc.2 (by omega)
  · refine (g2.blk k (Nat.lt_of_lt_of_le hk h2.size) fun hk1 => ?_).trans (h2.blk k hk hn)
    rcases h3 k (s4 k (.inl hk1)).1 with h | h
    · exact hn h
    · omega
  · rcases hb with hb | hb
    · rcases g3 b hb with h | h
      · exact h3 b (s4 b (.inl h)).1
      · exact .inr (Nat.le_trans h2.size h)
    · exact h3 b (s4 b (.inr hb.1)).1⟩
theorem hd_callW {i : Nat} {o : Oper} {c : Call} {f : FuncId} {fo : Operand} {vs : List Value} {cap : Array Value} {post : Value → List Asn → Prop} (hg : o.guard = none) (hev : ev i = true) (ho : o.op = .call c) (hc : c.callee = .value fo) (hf : e.op fo = some (.func (.func f) #[] cap)) (hvs : e.ops c.args.toList = some vs)
    {dd : Nat} (hdst : o.dst = some dd) (hd : okD n (some dd) = true) (he : Enters P f)
    (hs : ∀ w, St w0 F0 L w → Calls P f (vs ++ cap.toList).toArray w (fun en w' => ∃ v M, en = .returned v ∧ post v M ∧ St w nowhere M w'))
    (hD : ∀ v M, post v M → ∀ x, St w0 F0 (M ++ L) x → D x)
    (h : ∀ v M, post v M → HD P n ds ops ev D K r ((dd, v) :: e) (St w0 F0 (M ++ L))) : HD P n ds ops ev D K ((i, o) :: r) e (St w0 F0 L) := ⟨fun a ha => by
  simp only [TXD]
  rw [if_pos (by simp [Region.wanted, hg]), if_pos hev]
  intro w hC
  unfold Oper.wp
  rw [run_call he hc (ha.eval hf) (ha.evals hvs) ho]
  have hcall := hs w hC
  have e1 : (vs ++ cap.toList).toArray = vs.toArray ++ cap := by simp
  rw [e1] at hcall
  refine hcall.mono ?_
  rintro en w' ⟨v, M, rfl, hp, hSt⟩
  exact ⟨St w0 F0 (M ++ L), St.call (pre := []) hC (fun F1 _ => hSt.wide F1), hD v M hp, (h v M hp).out _ (by rw [hdst]; exact ha.put hd v)⟩⟩
variable {Q : Exit → Act → World → Prop}
theorem hc_drawD {id : Nat} {l : List Oper} (ord : List Nat) (hm : P.follows .mixedOrders = true) (hB : (Region.noSelect l.toArray && (ord.all (fun i => decide (i < l.length)) && chkD l.toArray (evK l.toArray) ord (Array.replicate l.length false))) = true) (hn : ord.length = l.length) (hCD : ∀ x, St w0 F0 L x → D x)
    (h : HD P n ds l.toArray (evK l.toArray) D (fun e' C' => HQ n ds Q .normal e' C') (ord.map fun i => (i, l.getD i default)) e (St w0 F0 L)) : HC P n ds (Code.region id l.toArray true) Q e (St w0 F0 L) := ⟨fun a w ha hC => by
  refine wp_region_txD (ev := evK l.toArray) (C := St w0 F0 L) (D := D) ord hm hB hn (hC.same (.drew w _ _)) hCD ?_
  exact txd_mono (fun a' C' ⟨e', h1, h2⟩ w' hw' => h2.out a' w' h1 hw') _ _ _ (h.out a ha)⟩
theorem hc_drawD2 {id : Nat} {l : List Oper} (o1 o2 : List Nat) (hm : P.follows .mixedOrders = true) (hB : (Region.noSelect l.toArray && ((o1 ++ o2).all (fun i => decide (i < l.length)) && chkD l.toArray (evK l.toArray) (o1 ++ o2) (Array.replicate l.length false))) = true) (hn : (o1 ++ o2).length = l.length) (hCD : ∀ x, St w0 F0 L x → D x) (he : (o1.all fun i => !evK l.toArray i) = true)
    (h : HX P n ds l.toArray (fun _ => false) (fun _ => false) (fun e' _ => HD P n ds l.toArray (evK l.toArray) D (fun e' C' => HQ n ds Q .normal e' C') (o2.map fun i => (i, l.getD i default)) e' (St w0 F0 L)) (o1.map fun i => l.getD i default) 0 e D) : HC P n ds (Code.region id l.toArray true) Q e (St w0 F0 L) :=
  hc_drawD (o1 ++ o2) hm hB hn hCD (by
    rw [List.map_append]
    refine hd_reads _ (by rw [List.all_map]; exact he) ?_
    rw [List.map_map]
    exact h)
theorem hd_end (l1 : List (Nat × Oper)) (he : (l1.all fun p => !ev p.1) = true) (h : HX P n ds ops (fun _ => false) (fun _ => false) (fun e' _ => HD P n ds ops ev D K [] e' C) (l1.map (·.2)) 0 e D) : HD P n ds ops ev D K l1 e C := by
  have := hd_reads (C := C) l1 he h
  rwa [List.append_nil] at this
end
end Go.Proofs.YtjnnlfeohbidhaaDoor
