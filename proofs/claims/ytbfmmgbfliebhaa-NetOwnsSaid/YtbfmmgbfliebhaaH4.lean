import Derived.Test.YtbfmmgbfliebhaaN22
import Derived.Test.YtbfmmgbfliebhaaH3
namespace Go.Proofs.Ytbfmmgbfliebhaa
open Go Go.Proofs Go.RowKit
set_option maxRecDepth 4000

section
variable {P : Program} {n : Nat} {ds : List Deferred} {ops : Array Oper} {ev wk : Nat → Bool} {K : Env → (World → Prop) → Prop} {r : List Oper} {o : Oper} {k : Nat} {e : Env} {C : World → Prop}
theorem h_min2 {x y : Operand} {ats : Array TypeId} {a b : Int} (c : Int) (hc : (if b < a then b else a) = c) (hev : ev k = true) (ho : o.op = .call { callee := .builtin .min, args := #[x, y], argTypes := ats }) (hx : e.op x = some (.int .i64 a)) (hy : e.op y = some (.int .i64 b))
    {dd : Nat} (hdst : o.dst = some dd) (hd : okD n (some dd) = true) (h : HX P n ds ops ev wk K r (k + 1) ((dd, .int .i64 c) :: e) C) : HX1 P n ds ops ev wk K o r k e C :=
  hx1_event hev (fun a' w ha hC => by
    have : (execOp a'.eval o).run P w = .ok (.value (.int .i64 c)) w := by
      simp [execOp, ho, resolve, invoke, builtin, ha.eval hx, ha.eval hy, run_min_int2, hc]
    unfold Oper.wp
    rw [this]
    exact ⟨C, _, hC, fun _ _ h => h, by rw [hdst]; exact ha.put hd _, h⟩)
end
/-- What is known of the net that is sent to. -/
structure OwI (s : NS) (n : Int) : Prop where
  ok : s.Ok
  giv : s.given ≤ n
  dat : ∀ f ∈ s.l, f.data.length ≤ 64
theorem OwI.new : OwI NS.new 0 := ⟨NS.new_ok, Int.le_refl _, fun f h => absurd h List.not_mem_nil⟩
theorem OwI.mono {s : NS} {n m : Int} (h : OwI s n) (hm : n ≤ m) : OwI s m := ⟨h.ok, Int.le_trans h.giv hm, h.dat⟩
theorem OwI.send {s : NS} {n : Int} (h : OwI s n) (to : Int) {d : List Int} (hd : d.length ≤ 64) : OwI (s.send to d) (n + 1) := by
  refine ⟨NS.send_ok h.ok to d, ?_, ?_⟩
  · unfold NS.send
    have := h.giv
    split
    · show s.given + 1 ≤ _
      omega
    · omega
  · unfold NS.send
    split
    · intro f hf
      rcases List.mem_append.1 (show f ∈ s.l ++ [_] from hf) with hf | hf
      · exact h.dat f hf
      · simp at hf
        subst hf
        exact hd
    · exact h.dat
theorem OwI.del {s : NS} {n : Int} (h : OwI s n) (no : Int) : OwI (s.del no) n :=
  ⟨NS.del_ok h.ok no, h.giv, fun f hf => h.dat f (List.mem_filter.1 hf).1⟩
theorem OwI.big {s : NS} {n : Int} (h : OwI s n) : ∀ f ∈ s.l, f.data.length ≤ 140737488355200 := fun f hf => by have := h.dat f hf; omega
/-- What is kept behind i steps. -/
structure OwJ (i : Nat) (s : NS) (ents : List HoE) (fl : List (SlV × List QF)) (buf : List Int) : Prop where
  net : OwI s (i : Int)
  en : ents.length ≤ 7 * i
  eb : ∀ q ∈ ents, q.bs.length ≤ 64
  fn : fl.length = 2 * i
  fb : ∀ q ∈ fl, q.2.length ≤ 4096
  bl : buf.length = 64
def owP (pn pr ph : Nat) (s : NS) (ents : List HoE) (fl : List (SlV × List QF)) (fv : Value) (gb cb : Nat) (buf : List Int) : List Asn := [NetO pn s, NtR pr s, HoO ph ents, RowV slE 48 fv (fl.map (·.1)), All (fl.map rwQ), RowV byteE 5 (.slice (some ⟨gb, 0, none⟩) 64 cb) buf]
set_option maxHeartbeats 8000000 in
theorem owns_law {xs : List (OpN × List Int)} {w : World} {v0 : Value} (h0 : Rd opE w v0 (xs.map (·.1))) (hx : ∀ q ∈ xs, OpR w q) (hxl : xs.length ≤ 140737488351232) :
    Calls Try.prog 3 [v0].toArray w (fun en w' => en = .returned (.bool true) ∧ But w w' nowhere) := by
  obtain ⟨a0, c0, rfl, l0, m0, k0⟩ := id h0
  rw [List.length_map] at l0
  unfold maxLen at m0
  refine reads_of Try.func3 rfl rfl (Nat.le_of_ble_eq_true rfl) ?_
  have hB : But w w nowhere := .refl w _
  have hF : ∀ b, nowhere b → w.heap.size ≤ b := fun _ h => h.elim
  rw [List.length_map]
  (refine hc_seq ?_; refine hc_lex ?_; refine hx_plain rfl ?_; refine h_assign rfl rfl rfl rfl ?_; refine hx_nil ?_; refine hq_then ?_; refine hc_seq ?_; refine hc_lex ?_; refine hx_plain rfl ?_)
  refine h_call rfl rfl rfl rfl rfl rfl rfl rfl EC.out .nil known_spec ?_
  rintro u M ⟨rfl, rfl⟩
  (refine hx_plain rfl ?_; refine h_assign rfl rfl rfl rfl ?_; refine hx_nil ?_; refine hq_then ?_; refine hc_seq ?_; refine hc_lex ?_; refine hx_plain rfl ?_)
  refine h_call rfl rfl rfl rfl rfl rfl rfl rfl EC.out .nil new_spec ?_
  rintro u M ⟨pn, rfl, rfl⟩
  (refine hx_plain rfl ?_; refine h_assign rfl rfl rfl rfl ?_; refine hx_nil ?_; refine hq_then ?_; refine hc_seq ?_; refine hc_lex ?_; refine hx_plain rfl ?_)
  refine h_call rfl rfl rfl rfl rfl rfl rfl rfl EC.out .nil rnew_spec ?_
  rintro u M ⟨pr, rfl, rfl⟩
  (refine hx_plain rfl ?_; refine h_assign rfl rfl rfl rfl ?_; refine hx_nil ?_; refine hq_then ?_; refine hc_seq ?_; refine hc_seq ?_; refine hc_lex ?_; refine hx_plain rfl ?_; refine h_move rfl rfl rfl rfl ?_; refine hx_plain rfl ?_; refine h_not rfl rfl rfl rfl ?_; refine hx_plain rfl ?_; refine h_move rfl rfl rfl rfl ?_; refine hx_yes rfl rfl rfl ?_; refine h_move rfl rfl rfl rfl ?_; refine hx_yes rfl rfl rfl ?_; refine h_eqNil rfl rfl rfl UC.out rfl rfl ?_; refine hx_plain rfl ?_; refine h_pickF rfl rfl rfl rfl rfl ?_; refine hx_nil ?_; refine hq_then ?_; refine hc_condF rfl ?_; refine hc_skip ?_; refine hq_then ?_; refine hc_seq ?_; refine hc_lex ?_; refine hx_plain rfl ?_; refine h_build rfl inferInstance rfl rfl rfl rfl ?_; refine hx_plain rfl ?_; (refine h_box rfl rfl rfl rfl rfl rfl (fun _ => ?_)); refine hx_plain rfl ?_; refine h_assign rfl rfl rfl rfl ?_; refine hx_nil ?_; refine hq_then ?_; refine hc_seq ?_; refine hc_lex ?_; refine hx_plain rfl ?_; refine h_assign rfl rfl rfl rfl ?_; refine hx_nil ?_; refine hq_then ?_; refine hc_seq ?_; refine hc_lex ?_; refine hx_plain rfl ?_)
  rename_i ph
  refine h_makeSlice byteE (l := 64) (c := 64) 0 rfl rfl rfl rfl UC.out IC.out rfl (by decide) (by decide) (by decide) rfl rfl (fun gb => ?_)
  (refine hx_plain rfl ?_; refine h_assign rfl rfl rfl rfl ?_; refine hx_nil ?_; refine hq_then ?_; refine hc_seq ?_; refine hc_seq ?_; refine hc_lex ?_; refine hx_plain rfl ?_; refine h_assign rfl rfl rfl rfl ?_; refine hx_nil ?_; refine hq_then ?_; refine hc_block ?_)
  refine hc_cut (id := 0) (Y := NS × List HoE × List (SlV × List QF) × Value × List Int) (fun y => [(4, .pointer (some ⟨pn, 0, none⟩)), (5, .pointer (some ⟨pr, 0, none⟩)), (6, .pointer (some ⟨ph, 0, none⟩)), (7, y.2.2.2.1)]) (fun y => owP pn pr ph y.1 y.2.1 y.2.2.1 y.2.2.2.1 gb 64 y.2.2.2.2) (fun y => ∃ i, i ≤ 30 ∧ OwJ i y.1 y.2.1 y.2.2.1 y.2.2.2.2) ?_ ?_
  · refine hc_loop (X := Nat × NS × List HoE × List (SlV × List QF) × Value × List Int) (fun x => [(0, .slice a0 xs.length c0), (4, .pointer (some ⟨pn, 0, none⟩)), (5, .pointer (some ⟨pr, 0, none⟩)), (6, .pointer (some ⟨ph, 0, none⟩)), (7, x.2.2.2.2.1), (8, .slice (some ⟨gb, 0, none⟩) 64 64), (9, .int .i64 (x.1 : Int))]) (fun x => owP pn pr ph x.2.1 x.2.2.1 x.2.2.2.1 x.2.2.2.2.1 gb 64 x.2.2.2.2.2) (fun x => x.1 ≤ xs.length ∧ x.1 ≤ 30 ∧ OwJ x.1 x.2.1 x.2.2.1 x.2.2.2.1 x.2.2.2.2.2) (fun x => 30 - x.1) (0, NS.new, [], [], .slice none 0 0, List.replicate 64 0) (.cons rfl (.cons rfl (.cons rfl (.cons rfl (.cons rfl (.cons rfl (.cons rfl .nil))))))) ⟨Nat.zero_le _, Nat.zero_le _, OwI.new, Nat.zero_le _, fun q hq => (by cases hq), rfl, fun q hq => (by cases hq), rfl⟩ (fun w' h => ?_) ?_
    · have h1 : St w nowhere (All [] :: RowV slE 48 (.slice none 0 0) [] :: _) w' := St.all.2 (St.rowV_nil (St.rowV_mk h))
      have h2 := HoO_new (h1.pulls (M := [Blk ph _]) (.cons (.tail (.tail (.tail .head))) .nil))
      exact h2.sub (.cons (.tail (.tail (.tail (.tail (.tail .head))))) (.cons (.tail (.tail (.tail (.tail .head)))) (.cons .head (.cons (.tail .head) (.cons .head (.cons .head .nil))))))
    rintro ⟨i, s, ents, fl, fv, buf⟩ ⟨hi, hi30, hJ⟩
    dsimp only at hi hi30 hJ ⊢
    by_cases hlt : i < xs.length ∧ i < 30
    · obtain ⟨hlx, hl30⟩ := hlt
      have hxs : xs ≠ [] := by
        intro e
        rw [e] at hlx
        exact absurd hlx (Nat.not_lt_zero _)
      obtain ⟨g0, f0, rfl, r1⟩ := k0.resolve_left (by simpa using hxs)
      obtain ⟨⟨o, ds⟩, hq⟩ : ∃ q, xs[i]? = some q := ⟨_, List.getElem?_eq_getElem hlx⟩
      have e1 : (xs.map (·.1))[((i : Nat) : Int).toNat]? = some o := by
        rw [List.getElem?_map]
        show (xs[i]?).map _ = _
        rw [hq]
        rfl
      obtain ⟨hqr, hql⟩ := hx _ (List.mem_iff_getElem?.2 ⟨i, hq⟩)
      dsimp only at hqr hql
      obtain ⟨kind, who, no, at_, v, to, sl, many⟩ := o
      obtain ⟨sa, sn, sc⟩ := sl
      obtain ⟨ra, rc, re, l2, m2, k2⟩ := id hqr
      injection re with re1 re2 re3
      dsimp only at re1 re2 re3
      subst re1 re2 re3
      unfold owP
      refine hc_seq ?_
      refine hc_seq ?_
      refine hc_lex ?_
      (refine hx_plain rfl ?_; refine h_move rfl rfl rfl rfl ?_; refine hx_plain rfl ?_; refine h_move rfl rfl rfl rfl ?_; refine hx_plain rfl ?_; refine h_len_slice rfl rfl rfl UC.out rfl rfl rfl ?_; refine hx_plain rfl ?_; refine h_cmp rfl rfl rfl rfl rfl rfl ?_; refine hx_plain rfl ?_; refine h_move rfl rfl rfl rfl ?_; refine hx_gT rfl rfl rfl (by first | omega | (dsimp only; omega)) ?_; refine hx_yes rfl rfl rfl ?_; refine h_move rfl rfl rfl rfl ?_; refine hx_yes rfl rfl rfl ?_; refine h_cmp rfl rfl rfl rfl rfl rfl ?_; refine hx_plain rfl ?_; refine h_pickT rfl rfl rfl rfl rfl ?_; refine hx_nil ?_; refine hq_then ?_)
      refine hc_condDT rfl (by omega) ?_
      refine hc_skip ?_
      (refine hq_then ?_)
      refine hc_seq ?_
      refine hc_block ?_
      refine hc_seq ?_
      refine hc_lex ?_
      (refine hx_plain rfl ?_; refine h_move rfl rfl rfl rfl ?_; refine hx_plain rfl ?_; refine h_move rfl rfl rfl rfl ?_; refine hx_plain rfl ?_; refine h_indexAddr rfl rfl rfl UC.out IC.size (by first | omega | (dsimp only; omega)) (by first | omega | (dsimp only; omega)) rfl rfl ?_; refine hx_plain rfl ?_; refine h_rdLoadN rfl r1 rfl UC.out rfl IC.size (by with_reducible assumption) rfl rfl rfl ?_; refine hx_plain rfl ?_; (refine h_alloc rfl rfl IC.zero rfl rfl rfl (fun _ => ?_)); refine hx_plain rfl ?_; refine h_store rfl rfl rfl rfl rfl rfl IC.size .head rfl rfl (Nat.le_of_ble_eq_true rfl) (List.all_eq_true.1 rfl) ?_; refine hx_nil ?_; refine hq_then ?_)
      rename_i bx
      refine hc_meet (Y := NS × List HoE × List Int) (fun _ => [(0, .slice (some ⟨g0, f0, none⟩) xs.length c0), (4, .pointer (some ⟨pn, 0, none⟩)), (5, .pointer (some ⟨pr, 0, none⟩)), (6, .pointer (some ⟨ph, 0, none⟩)), (7, fv), (8, .slice (some ⟨gb, 0, none⟩) 64 64), (9, .int .i64 (i : Int))]) (fun y => owP pn pr ph y.1 y.2.1 fl fv gb 64 y.2.2) (fun y => OwI y.1 ((i : Int) + 1) ∧ y.2.1.length ≤ 7 * i + 1 ∧ (∀ q ∈ y.2.1, q.bs.length ≤ 64) ∧ y.2.2.length = 64) ?_ ?_
      · by_cases hk : kind = 3
        · -- <B1>
          subst hk
          (refine hc_seq ?_; refine hc_lex ?_; refine hx_plain rfl ?_; refine h_fieldAddr0 rfl rfl FC.out rfl rfl ?_; refine hx_plain rfl ?_; refine h_load rfl rfl UC.out rfl .head rfl rfl rfl ?_; refine hx_plain rfl ?_; refine h_cmp rfl rfl rfl rfl rfl rfl ?_; refine hx_nil ?_; refine hq_then ?_; refine hc_condT rfl ?_; refine hc_seq ?_; refine hc_lex ?_; refine hx_plain rfl ?_; refine h_move rfl rfl rfl rfl ?_; refine hx_plain rfl ?_; refine h_fieldAddr0 rfl rfl FC.out rfl rfl ?_; refine hx_plain rfl ?_; refine h_load rfl rfl UC.out rfl .head rfl rfl rfl ?_; refine hx_plain rfl ?_)
          refine h_call rfl rfl rfl rfl rfl rfl rfl rfl EC.out (.cons (.tail .head) .nil) (take_all no hJ.net.ok) ?_
          rintro u M ⟨t1, rfl, rfl⟩
          (refine hx_plain rfl ?_; refine h_move rfl rfl rfl rfl ?_; refine hx_plain rfl ?_; refine h_extract rfl rfl rfl rfl rfl ?_; refine hx_plain rfl ?_; refine h_extract rfl rfl rfl rfl rfl ?_; refine hx_plain rfl ?_; (refine h_alloc rfl rfl IC.zero rfl rfl rfl (fun _ => ?_)); refine hx_plain rfl ?_; refine h_store rfl rfl rfl rfl rfl rfl IC.size .head rfl rfl (Nat.le_of_ble_eq_true rfl) (List.all_eq_true.1 rfl) ?_; refine hx_plain rfl ?_; refine h_assign rfl rfl rfl rfl ?_; refine hx_nil ?_; refine hq_then ?_; refine hc_seq ?_; refine hc_lex ?_; refine hx_plain rfl ?_; refine h_move rfl rfl rfl rfl ?_; refine hx_plain rfl ?_; refine h_fieldAddr0 rfl rfl FC.out rfl rfl ?_; refine hx_plain rfl ?_; refine h_load rfl rfl UC.out rfl (.tail (.tail (.tail .head))) rfl rfl rfl ?_; refine hx_plain rfl ?_)
          refine h_call rfl rfl rfl rfl rfl rfl rfl rfl EC.out (.cons (.tail (.tail (.tail (.tail .head)))) .nil) (rtake_all no hJ.net.ok) ?_
          rintro u M ⟨t2, rfl, rfl⟩
          (refine hx_plain rfl ?_; refine h_move rfl rfl rfl rfl ?_; refine hx_plain rfl ?_; refine h_extract rfl rfl rfl rfl rfl ?_; refine hx_plain rfl ?_; refine h_extract rfl rfl rfl rfl rfl ?_; refine hx_plain rfl ?_; (refine h_alloc rfl rfl IC.zero rfl rfl rfl (fun _ => ?_)); refine hx_plain rfl ?_; refine h_store rfl rfl rfl rfl rfl rfl IC.size .head rfl rfl (Nat.le_of_ble_eq_true rfl) (List.all_eq_true.1 rfl) ?_; refine hx_plain rfl ?_; refine h_assign rfl rfl rfl rfl ?_; refine hx_nil ?_; refine hq_then ?_; refine hc_seq ?_; refine hc_lex ?_; refine hx_plain rfl ?_; refine h_fieldAddr0 rfl rfl FC.out rfl rfl ?_; refine hx_plain rfl ?_; refine h_load rfl rfl UC.out rfl (.tail (.tail (.tail .head))) rfl rfl rfl ?_; refine hx_plain rfl ?_; refine h_fieldAddr0 rfl rfl FC.out rfl rfl ?_; refine hx_plain rfl ?_; refine h_load rfl rfl UC.out rfl .head rfl rfl rfl ?_; refine hx_plain rfl ?_)
          refine h_callRd rfl rfl rfl rfl rfl rfl EC.out (fun w' h => sameBytes (h.rdRowV (.tail (.tail (.tail (.tail .head))))) (h.rdRowV (.tail .head))) ?_
          rw [show decide (s.tkD no = s.tkD no) = true from decide_eq_true rfl]
          (refine hx_plain rfl ?_; refine h_assign rfl rfl rfl rfl ?_; refine hx_nil ?_; refine hq_then ?_; refine hc_seq ?_; refine hc_seq ?_; refine hc_lex ?_; refine hx_plain rfl ?_; refine h_move rfl rfl rfl rfl ?_; refine hx_plain rfl ?_)
          refine h_callR rfl rfl rfl rfl rfl rfl EC.out ((num_spec _).reads _) ?_
          (refine hx_plain rfl ?_; refine h_move rfl rfl rfl rfl ?_; refine hx_plain rfl ?_; refine h_cmp rfl rfl rfl rfl rfl rfl ?_; refine hx_plain rfl ?_; refine h_move rfl rfl rfl rfl ?_; refine hx_gF rfl rfl rfl (by first | omega | (dsimp only; omega)) ?_; refine hx_yes rfl rfl rfl ?_; refine h_move rfl rfl rfl rfl ?_; refine hx_yes rfl rfl rfl ?_; refine h_not rfl rfl rfl rfl ?_; refine hx_plain rfl ?_; refine h_pickF rfl rfl rfl rfl rfl ?_; refine hx_nil ?_; refine hq_then ?_; refine hc_condF rfl ?_; refine hc_skip ?_; refine hq_then ?_; refine hc_lex ?_; refine hx_plain rfl ?_; refine h_move rfl rfl rfl rfl ?_; refine hx_plain rfl ?_; refine h_fieldAddr0 rfl rfl FC.out rfl rfl ?_; refine hx_plain rfl ?_; refine h_load rfl rfl UC.out rfl (.tail (.tail (.tail .head))) rfl rfl rfl ?_; refine hx_plain rfl ?_)
          have htd := NS.tkD_len (no := no) hJ.net.dat
          have hen := hJ.en
          refine h_call rfl rfl rfl rfl rfl rfl rfl rfl EC.out (.cons (.tail (.tail (.tail (.tail (.tail (.tail (.tail .head))))))) (.cons (.tail (.tail (.tail (.tail .head)))) .nil)) (hkeep_spec (ents := ents) (sl := t1) (bs := s.tkD no) (by omega) (by omega)) ?_
          rintro u M ⟨rfl, tw, rfl⟩
          (refine hx_nil ?_)
          refine hq_met (s.del no, ents ++ [HoE.mk t1 tw (s.tkD no)], buf) ⟨(hJ.net.del no).mono (by omega), by show (ents ++ [_]).length ≤ _; rw [List.length_append]; show ents.length + 1 ≤ _; omega, fun q hq => ?_, hJ.bl⟩ (.cons rfl (.cons rfl (.cons rfl (.cons rfl (.cons rfl (.cons rfl (.cons rfl .nil))))))) (fun _ h => h.sub (.cons (.tail (.tail (.tail (.tail (.tail .head))))) (.cons (.tail (.tail (.tail .head))) (.cons .head (.cons (.tail (.tail (.tail (.tail .head)))) (.cons (.tail (.tail (.tail (.tail .head)))) (.cons (.tail (.tail (.tail (.tail .head)))) .nil)))))))
          rcases List.mem_append.1 (show q ∈ ents ++ [_] from hq) with hq | hq
          · exact hJ.eb q hq
          · simp at hq
            subst hq
            exact htd
          -- </B1>
        · -- <B2>
          obtain ⟨m, hm⟩ : ∃ m, m = min ds.length 64 := ⟨_, rfl⟩
          have hm1 : m ≤ 64 := by omega
          have hm2 : m ≤ ds.length := by omega
          (refine hc_seq ?_; refine hc_lex ?_; refine hx_plain rfl ?_; refine h_fieldAddr0 rfl rfl FC.out rfl rfl ?_; refine hx_plain rfl ?_; refine h_load rfl rfl UC.out rfl .head rfl rfl rfl ?_; refine hx_plain rfl ?_; refine h_cmp rfl rfl rfl rfl rfl rfl ?_; refine hx_nil ?_; refine hq_then ?_; refine hc_condDF rfl (by first | omega | (dsimp only; omega)) ?_; refine hc_seq ?_; refine hc_lex ?_; refine hx_plain rfl ?_; refine h_fieldAddr0 rfl rfl FC.out rfl rfl ?_; refine hx_plain rfl ?_; refine h_load rfl rfl UC.out rfl .head rfl rfl rfl ?_; refine hx_plain rfl ?_; refine h_len_slice rfl rfl rfl UC.out rfl rfl rfl ?_; refine hx_plain rfl ?_)
          refine h_min2 (m : Int) (by dsimp only; split <;> omega) rfl rfl rfl rfl rfl rfl ?_
          (refine hx_plain rfl ?_; refine h_assign rfl rfl rfl rfl ?_; refine hx_nil ?_; refine hq_then ?_; refine hc_seq ?_; refine hc_seq ?_; refine hc_lex ?_; refine hx_plain rfl ?_; refine h_assign rfl rfl rfl rfl ?_; refine hx_nil ?_; refine hq_then ?_; refine hc_block ?_)
          refine hc_cut (id := 2) (Y := List Int) (fun _ => [(0, .slice (some ⟨g0, f0, none⟩) xs.length c0), (4, .pointer (some ⟨pn, 0, none⟩)), (5, .pointer (some ⟨pr, 0, none⟩)), (6, .pointer (some ⟨ph, 0, none⟩)), (7, fv), (8, .slice (some ⟨gb, 0, none⟩) 64 64), (9, .int .i64 (i : Int)), (10, .pointer (some ⟨bx, 0, none⟩)), (16, .int .i64 (m : Int))]) (fun b => [Blk bx (.cells #[.int .i64 kind, .int .i64 who, .int .i64 no, .int .i64 at_, .int .i64 v, .int .i64 to, .slice sa ds.length sc, .int .i64 many] 35 (0, 0)), NetO pn s, NtR pr s, HoO ph ents, RowV slE 48 fv (fl.map (·.1)), All (fl.map rwQ), RowV byteE 5 (.slice (some ⟨gb, 0, none⟩) 64 64) b]) (fun b => b.length = 64) ?_ ?_
          · refine hc_loop (X := Nat × List Int) (fun x => [(0, .slice (some ⟨g0, f0, none⟩) xs.length c0), (4, .pointer (some ⟨pn, 0, none⟩)), (5, .pointer (some ⟨pr, 0, none⟩)), (6, .pointer (some ⟨ph, 0, none⟩)), (7, fv), (8, .slice (some ⟨gb, 0, none⟩) 64 64), (9, .int .i64 (i : Int)), (10, .pointer (some ⟨bx, 0, none⟩)), (16, .int .i64 (m : Int)), (17, .int .i64 (x.1 : Int))]) (fun x => [Blk bx (.cells #[.int .i64 kind, .int .i64 who, .int .i64 no, .int .i64 at_, .int .i64 v, .int .i64 to, .slice sa ds.length sc, .int .i64 many] 35 (0, 0)), NetO pn s, NtR pr s, HoO ph ents, RowV slE 48 fv (fl.map (·.1)), All (fl.map rwQ), RowV byteE 5 (.slice (some ⟨gb, 0, none⟩) 64 64) x.2]) (fun x => x.1 ≤ m ∧ x.2.length = 64) (fun x => m - x.1) (0, buf) (.cons rfl (.cons rfl (.cons rfl (.cons rfl (.cons rfl (.cons rfl (.cons rfl (.cons rfl (.cons rfl (.cons rfl .nil)))))))))) ⟨Nat.zero_le _, hJ.bl⟩ (fun _ h => h) ?_
            rintro ⟨k, b⟩ ⟨hk, hb⟩
            dsimp only at hk hb ⊢
            by_cases hkm : k < m
            · obtain ⟨g2, f2, rfl, r2⟩ := k2.resolve_left (fun e => by have := congrArg List.length e; have h0 : ds.length = 0 := this; omega)
              have e2 : ds[((k : Nat) : Int).toNat]? = some (ds[k]'(by omega)) := List.getElem?_eq_getElem (by omega)
              have e3 : b[((k : Nat) : Int).toNat]? = some (b[k]'(by omega)) := List.getElem?_eq_getElem (by omega)
              refine hc_rowV (.tail (.tail (.tail (.tail (.tail (.tail .head)))))) ?_ ?_
              · intro e _
                cases e
              rintro g cap e
              rw [hb] at e
              injection e with e1' e2' e3'
              injection e1' with e1'
              injection e1' with e1'
              subst e1' e3'
              (refine hc_seq ?_; refine hc_seq ?_; refine hc_lex ?_; refine hx_plain rfl ?_; refine h_move rfl rfl rfl rfl ?_; refine hx_plain rfl ?_; refine h_move rfl rfl rfl rfl ?_; refine hx_plain rfl ?_; refine h_cmp rfl rfl rfl rfl rfl rfl ?_; refine hx_nil ?_; refine hq_then ?_; refine hc_condDT rfl (by first | omega | (dsimp only; omega)) ?_; refine hc_skip ?_; refine hq_then ?_; refine hc_seq ?_; refine hc_block ?_; refine hc_lex ?_; refine hx_plain rfl ?_; refine h_move rfl rfl rfl rfl ?_; refine hx_plain rfl ?_; refine h_move rfl rfl rfl rfl ?_; refine hx_plain rfl ?_; refine h_fieldAddr0 rfl rfl FC.out rfl rfl ?_; refine hx_plain rfl ?_; refine h_load rfl rfl UC.out rfl (.tail .head) rfl rfl rfl ?_; refine hx_plain rfl ?_; refine h_move rfl rfl rfl rfl ?_; refine hx_plain rfl ?_; refine h_indexAddr rfl rfl rfl UC.out IC.size (by first | omega | (dsimp only; omega)) (by first | omega | (dsimp only; omega)) rfl rfl ?_; refine hx_plain rfl ?_; refine h_rdLoad1 rfl r2 rfl UC.out rfl (by with_reducible assumption) rfl rfl rfl ?_; refine hx_plain rfl ?_; refine h_rowAddr rfl rfl rfl UC.out IC.size (by first | omega | (dsimp only; omega)) (by first | omega | (dsimp only; omega)) rfl rfl ?_; refine hx_plain rfl ?_)
              refine h_rowStoreN (z := ds[k]'(by omega)) rfl rfl rfl .head rfl rfl rfl IC.size e3 rfl rfl ?_
              (refine hx_nil ?_; refine hq_norm_block ?_; refine hq_then ?_; refine hc_lex ?_; refine hx_plain rfl ?_; refine h_move rfl rfl rfl rfl ?_; refine hx_plain rfl ?_; refine h_arithI rfl rfl rfl rfl (by first | omega | (dsimp only; omega)) rfl rfl ?_; refine hx_plain rfl ?_; refine h_assign rfl rfl rfl rfl ?_; refine hx_nil ?_)
              refine hq_round (k + 1, b.set k (ds[k]'(by omega))) (by show m - (k + 1) < m - k; omega) ⟨by show k + 1 ≤ m; omega, by show (b.set _ _).length = 64; rw [List.length_set, hb]⟩ (.cons rfl (.cons rfl (.cons rfl (.cons rfl (.cons rfl (.cons rfl (.cons rfl (.cons rfl (.cons rfl (.cons rfl .nil)))))))))) (fun w' h => ?_)
              have h3 := (show St w nowhere (Row byteE 5 gb 64 (b.set k (ds[k]'(by omega))) :: _) w' from h).rowV_mk
              rw [List.length_set, hb] at h3
              exact h3.sub (.cons (.tail .head) (.cons (.tail .head) (.cons (.tail .head) (.cons (.tail .head) (.cons (.tail .head) (.cons (.tail .head) (.cons .head .nil)))))))
            · (refine hc_seq ?_; refine hc_seq ?_; refine hc_lex ?_; refine hx_plain rfl ?_; refine h_move rfl rfl rfl rfl ?_; refine hx_plain rfl ?_; refine h_move rfl rfl rfl rfl ?_; refine hx_plain rfl ?_; refine h_cmp rfl rfl rfl rfl rfl rfl ?_; refine hx_nil ?_; refine hq_then ?_; refine hc_condDF rfl (by first | omega | (dsimp only; omega)) ?_; refine hc_exit ?_; refine hq_exit_then ?_; refine hq_exit_then ?_)
              exact hq_cut b hb (.cons rfl (.cons rfl (.cons rfl (.cons rfl (.cons rfl (.cons rfl (.cons rfl (.cons rfl (.cons rfl .nil))))))))) (fun _ h => h)
          rintro b hb
          have hdl : (b.take m).length ≤ 64 := by rw [List.length_take]; omega
          have hrd : ∀ (w' : World) (G : Nat → Prop), (RowV byteE 5 (.slice (some ⟨gb, 0, none⟩) 64 64) b).p w' G → Rd byteE w' (.slice (some ⟨gb, 0, none⟩) m 64) (b.take m) := fun w' G h =>
            Rd.takeN (n := m) (St.rdRowV (L := [RowV byteE 5 (.slice (some ⟨gb, 0, none⟩) 64 64) b]) (St.start ⟨G, fun _ => False, h, trivial, fun _ _ h => h, fun _ h => h.elim id False.elim⟩) .head) (by rw [hb]; exact hm1)
          have hgiv := hJ.net.giv
          (refine hq_exit_block ?_; refine hq_then ?_; refine hc_seq ?_)
          refine hc_drawO [0, 1, 2, 3, 4, 5, 6, 7, 8] (fun _ => false) (by kernel_rfl) (by kernel_rfl) rfl ?_
          (refine hx_plain rfl ?_; refine h_move rfl rfl rfl rfl ?_; refine hx_plain rfl ?_; refine h_fieldAddr0 rfl rfl FC.out rfl rfl ?_; refine hx_plain rfl ?_; refine h_load rfl rfl UC.out rfl .head rfl rfl rfl ?_; refine hx_plain rfl ?_; refine h_move rfl rfl rfl rfl ?_; refine hx_plain rfl ?_; refine h_move rfl rfl rfl rfl ?_; refine hx_plain rfl ?_; refine h_sliceTo rfl rfl rfl UC.out IC.size (by first | omega | (dsimp only; omega)) rfl rfl ?_; refine hx_plain rfl ?_; refine h_build rfl inferInstance rfl rfl rfl rfl ?_; refine hx_plain rfl ?_)
          refine h_call rfl rfl rfl rfl rfl rfl rfl rfl EC.out (.cons (.tail .head) (.cons (.tail (.tail (.tail (.tail (.tail .head))))) .nil)) (sendA (A0 := RowV byteE 5 (.slice (some ⟨gb, 0, none⟩) 64 64) b) (d := b.take m) hJ.net.ok (by omega) (by omega) hrd) ?_
          rintro u M ⟨rfl, rfl⟩
          (refine hx_plain rfl ?_; refine h_assign rfl rfl rfl rfl ?_; refine hx_nil ?_; refine hq_then ?_; refine hc_seq ?_)
          refine hc_drawO [0, 1, 2, 3, 4, 5, 6, 7, 8, 9] (fun i => Nat.beq i 6) (by kernel_rfl) (by kernel_rfl) rfl ?_
          (refine hx_plain rfl ?_; refine h_move rfl rfl rfl rfl ?_; refine hx_plain rfl ?_; refine h_fieldAddr0 rfl rfl FC.out rfl rfl ?_; refine hx_plain rfl ?_; refine h_load rfl rfl UC.out rfl (.tail (.tail .head)) rfl rfl rfl ?_; refine hx_plain rfl ?_; refine h_move rfl rfl rfl rfl ?_; refine hx_plain rfl ?_; refine h_move rfl rfl rfl rfl ?_; refine hx_plain rfl ?_; refine h_sliceTo rfl rfl rfl UC.out IC.size (by first | omega | (dsimp only; omega)) rfl rfl ?_; refine hx_plain rfl ?_)
          refine h_callWk (post := fun u M => ∃ s : SlV, u = s.v ∧ M = [RowV byteE 5 s.v (b.take m)]) rfl rfl rfl rfl rfl rfl rfl EC.out (fun w' h => (bytes_makes (Rd.takeN (n := m) (h.rdRowV (.tail .head)) (by rw [hb]; exact hm1)) (by omega)).slV) ?_
          rintro u M ⟨s2, rfl, rfl⟩
          (refine hx_plain rfl ?_; refine h_build rfl inferInstance rfl rfl rfl rfl ?_; refine hx_plain rfl ?_)
          refine h_call rfl rfl rfl rfl rfl rfl rfl rfl EC.out (.cons (.tail (.tail (.tail (.tail .head)))) (.cons .head .nil)) (rsendA (A0 := RowV byteE 5 s2.v (b.take m)) (d := b.take m) hJ.net.ok (by omega) (by omega) (fun w' G h => St.rdRowV (L := [RowV byteE 5 s2.v (b.take m)]) (St.start ⟨G, fun _ => False, h, trivial, fun _ _ h => h, fun _ h => h.elim id False.elim⟩) .head)) ?_
          rintro u M ⟨rfl, rfl⟩
          (refine hx_plain rfl ?_; refine h_assign rfl rfl rfl rfl ?_; refine hx_nil ?_; refine hq_then ?_; refine hc_seq ?_; refine hc_lex ?_; refine hx_plain rfl ?_; refine h_move rfl rfl rfl rfl ?_; refine hx_plain rfl ?_; refine h_move rfl rfl rfl rfl ?_; refine hx_plain rfl ?_; refine h_cmp rfl rfl rfl rfl rfl rfl ?_; refine hx_nil ?_; refine hq_then ?_; refine hc_condDF rfl (by first | omega | (dsimp only; omega)) ?_; refine hc_skip ?_)
          have hen := hJ.en
          exact hq_met (s.send to (b.take m), ents, b) ⟨hJ.net.send to hdl, by show ents.length ≤ _; omega, hJ.eb, hb⟩ (.cons rfl (.cons rfl (.cons rfl (.cons rfl (.cons rfl (.cons rfl (.cons rfl .nil))))))) (fun _ h => h.sub (.cons (.tail (.tail .head)) (.cons .head (.cons (.tail (.tail (.tail .head))) (.cons (.tail (.tail (.tail .head))) (.cons (.tail (.tail (.tail .head))) (.cons (.tail .head) .nil)))))))
          -- </B2>
      rintro ⟨s', ents', buf'⟩ ⟨hI, hel, heb, hbl⟩
      -- <C>
      dsimp only at hI hel heb hbl ⊢
      unfold owP
      (refine hc_seq ?_; refine hc_lex ?_; refine hx_plain rfl ?_; refine h_assign rfl rfl rfl rfl ?_; refine hx_nil ?_; refine hq_then ?_; refine hc_block ?_)
      have hfn := hJ.fn
      refine hc_cut (id := 4) (Y := List HoE × List (SlV × List QF) × Value) (fun y => [(0, .slice (some ⟨g0, f0, none⟩) xs.length c0), (4, .pointer (some ⟨pn, 0, none⟩)), (5, .pointer (some ⟨pr, 0, none⟩)), (6, .pointer (some ⟨ph, 0, none⟩)), (7, y.2.2), (8, .slice (some ⟨gb, 0, none⟩) 64 64), (9, .int .i64 (i : Int))]) (fun y => [NetO pn s', NtR pr s', HoO ph y.1, RowV slE 48 y.2.2 (y.2.1.map (·.1)), All (y.2.1.map rwQ), RowV byteE 5 (.slice (some ⟨gb, 0, none⟩) 64 64) buf']) (fun y => y.1.length ≤ 7 * (i + 1) ∧ (∀ q ∈ y.1, q.bs.length ≤ 64) ∧ y.2.1.length = 2 * (i + 1) ∧ ∀ q ∈ y.2.1, q.2.length ≤ 4096) ?_ ?_
      · refine hc_loop (X := Nat × List HoE × List (SlV × List QF) × Value) (fun x => [(0, .slice (some ⟨g0, f0, none⟩) xs.length c0), (4, .pointer (some ⟨pn, 0, none⟩)), (5, .pointer (some ⟨pr, 0, none⟩)), (6, .pointer (some ⟨ph, 0, none⟩)), (7, x.2.2.2), (8, .slice (some ⟨gb, 0, none⟩) 64 64), (9, .int .i64 (i : Int)), (20, .int .i64 (x.1 : Int))]) (fun x => [NetO pn s', NtR pr s', HoO ph x.2.1, RowV slE 48 x.2.2.2 (x.2.2.1.map (·.1)), All (x.2.2.1.map rwQ), RowV byteE 5 (.slice (some ⟨gb, 0, none⟩) 64 64) buf']) (fun x => x.1 ≤ 2 ∧ x.2.1.length ≤ 7 * i + 1 + 3 * x.1 ∧ (∀ q ∈ x.2.1, q.bs.length ≤ 64) ∧ x.2.2.1.length = 2 * i + x.1 ∧ ∀ q ∈ x.2.2.1, q.2.length ≤ 4096) (fun x => 2 - x.1) (0, ents', fl, fv) (.cons rfl (.cons rfl (.cons rfl (.cons rfl (.cons rfl (.cons rfl (.cons rfl (.cons rfl .nil)))))))) ⟨Nat.zero_le _, hel, heb, hfn, hJ.fb⟩ (fun _ h => h) ?_
        rintro ⟨k, en, fl', fv'⟩ ⟨hk, hen, heb', hfl', hfb'⟩
        dsimp only at hk hen heb' hfl' hfb' ⊢
        by_cases hk2 : k < 2
        · (refine hc_seq ?_; refine hc_seq ?_; refine hc_lex ?_; refine hx_plain rfl ?_; refine h_move rfl rfl rfl rfl ?_; refine hx_plain rfl ?_; refine h_cmp rfl rfl rfl rfl rfl rfl ?_; refine hx_nil ?_; refine hq_then ?_; refine hc_condDT rfl (by first | omega | (dsimp only; omega)) ?_; refine hc_skip ?_; refine hq_then ?_; refine hc_seq ?_; refine hc_block ?_; refine hc_seq ?_; refine hc_lex ?_; refine hx_plain rfl ?_; refine h_move rfl rfl rfl rfl ?_; refine hx_plain rfl ?_)
          refine h_call rfl rfl rfl rfl rfl rfl rfl rfl EC.out (.cons .head .nil) (under_spec hI.ok hI.big) ?_
          rintro u M rfl
          (refine hx_plain rfl ?_; refine h_assign rfl rfl rfl rfl ?_; refine hx_nil ?_; refine hq_then ?_; refine hc_seq ?_; refine hc_lex ?_; refine hx_plain rfl ?_; refine h_move rfl rfl rfl rfl ?_; refine hx_plain rfl ?_)
          refine h_call rfl rfl rfl rfl rfl rfl rfl rfl EC.out (.cons (.tail (.tail .head)) .nil) (runder_spec hI.ok hI.big) ?_
          rintro u2 M rfl
          (refine hx_plain rfl ?_; refine h_assign rfl rfl rfl rfl ?_; refine hx_nil ?_; refine hq_then ?_)
          refine hc_openP .head FlO_open ?_
          intro qs2 hq2
          refine hc_openP (.tail (.tail (.tail .head))) FlO_open ?_
          intro qs hqs
          refine hc_know (fun _ h => St.rowV_shapeS h .head) ?_
          rintro ⟨av, cv, rfl⟩
          have hn : qs.length = s'.l.length := by rw [← hqs, List.length_map]
          have hfew := hI.ok.few
          have hqd : ∀ q ∈ qs, q.f.data.length ≤ 64 := fun q hq => hI.dat _ (by rw [← hqs]; exact List.mem_map_of_mem hq)
          (refine hc_seq ?_; refine hc_lex ?_; refine hx_plain rfl ?_; refine h_move rfl rfl rfl rfl ?_; refine hx_plain rfl ?_; refine h_move rfl rfl rfl rfl ?_; refine hx_plain rfl ?_)
          refine h_callRd rfl rfl rfl rfl rfl rfl EC.out (fun w' h => sameFlights (St.rdFlO (FlO_shut hqs h) .head) (St.rdFlO (FlO_shut hq2 (h.pulls (.cons (.tail (.tail .head)) (.cons (.tail (.tail .head)) .nil)))) .head)) ?_
          rw [show decide (s'.l = s'.l) = true from decide_eq_true rfl]
          (refine hx_plain rfl ?_; refine h_assign rfl rfl rfl rfl ?_; refine hx_nil ?_; refine hq_then ?_; refine hc_seq ?_; refine hc_seq ?_; refine hc_lex ?_; refine hx_plain rfl ?_; refine h_move rfl rfl rfl rfl ?_; refine hx_plain rfl ?_; refine h_not rfl rfl rfl rfl ?_; refine hx_nil ?_; refine hq_then ?_; refine hc_condF rfl ?_; refine hc_skip ?_; refine hq_then ?_; refine hc_seq ?_; refine hc_seq ?_; refine hc_lex ?_; refine hx_plain rfl ?_; refine h_assign rfl rfl rfl rfl ?_; refine hx_nil ?_; refine hq_then ?_; refine hc_block ?_)
          refine hc_cut (id := 6) (Y := List HoE) (fun _ => [(0, .slice (some ⟨g0, f0, none⟩) xs.length c0), (4, .pointer (some ⟨pn, 0, none⟩)), (5, .pointer (some ⟨pr, 0, none⟩)), (6, .pointer (some ⟨ph, 0, none⟩)), (7, fv'), (8, .slice (some ⟨gb, 0, none⟩) 64 64), (9, .int .i64 (i : Int)), (20, .int .i64 (k : Int)), (21, .slice av qs.length cv)]) (fun y => [RowV qfE 52 (.slice av qs.length cv) qs, NetO pn s', NtR pr s', HoO ph y, RowV slE 48 fv' (fl'.map (·.1)), All (fl'.map rwQ), RowV byteE 5 (.slice (some ⟨gb, 0, none⟩) 64 64) buf']) (fun y => y.length ≤ en.length + 3 ∧ ∀ q ∈ y, q.bs.length ≤ 64) ?_ ?_
          · refine hc_loop (X := Nat × List HoE) (fun x => [(0, .slice (some ⟨g0, f0, none⟩) xs.length c0), (4, .pointer (some ⟨pn, 0, none⟩)), (5, .pointer (some ⟨pr, 0, none⟩)), (6, .pointer (some ⟨ph, 0, none⟩)), (7, fv'), (8, .slice (some ⟨gb, 0, none⟩) 64 64), (9, .int .i64 (i : Int)), (20, .int .i64 (k : Int)), (21, .slice av qs.length cv), (24, .int .i64 (x.1 : Int))]) (fun x => [RowV qfE 52 (.slice av qs.length cv) qs, netR (qs.drop x.1), NetO pn s', NtR pr s', HoO ph x.2, RowV slE 48 fv' (fl'.map (·.1)), All (fl'.map rwQ), RowV byteE 5 (.slice (some ⟨gb, 0, none⟩) 64 64) buf']) (fun x => x.1 ≤ qs.length ∧ x.1 ≤ 3 ∧ x.2.length ≤ en.length + x.1 ∧ ∀ q ∈ x.2, q.bs.length ≤ 64) (fun x => 3 - x.1) (0, en) (.cons rfl (.cons rfl (.cons rfl (.cons rfl (.cons rfl (.cons rfl (.cons rfl (.cons rfl (.cons rfl (.cons rfl .nil)))))))))) ⟨Nat.zero_le _, Nat.zero_le _, Nat.le_refl _, heb'⟩ (fun _ h => ?_) ?_
            · exact h.sub (.cons .head (.cons .head (.cons (.tail (.tail (.tail .head))) (.cons (.tail (.tail .head)) (.cons (.tail (.tail .head)) (.cons (.tail (.tail .head)) (.cons (.tail (.tail .head)) (.cons (.tail (.tail .head)) .nil))))))))
            rintro ⟨j, en'⟩ ⟨hj1, hj2, hj3, hj4⟩
            dsimp only at hj1 hj2 hj3 hj4 ⊢
            by_cases hlt : j < qs.length ∧ j < 3
            · obtain ⟨h1, h2⟩ := hlt
              obtain ⟨q, hq⟩ : ∃ q, qs[j]? = some q := ⟨_, List.getElem?_eq_getElem h1⟩
              have hqb := hqd q (List.mem_iff_getElem?.2 ⟨j, hq⟩)
              have e2 : qs[((j : Nat) : Int).toNat]? = some q := hq
              refine hc_rowV .head ?_ ?_
              · intro _ e
                rw [e] at h1
                exact absurd h1 (Nat.not_lt_zero _)
              rintro g cap e
              injection e with e1' e2' e3'
              subst e1' e3'
              refine hc_st (C' := St w nowhere [RowV byteE 5 q.sl.v q.f.data, netR (qs.drop (j + 1)), Row qfE 52 g cv qs, NetO pn s', NtR pr s', HoO ph en', RowV slE 48 fv' (fl'.map (·.1)), All (fl'.map rwQ), RowV byteE 5 (.slice (some ⟨gb, 0, none⟩) 64 64) buf']) (fun _ h => ?_) ?_
              · have h5 := rows_erase (ks := qs.drop j) (k := 0) (q := q) (by rw [List.getElem?_drop, Nat.add_zero]; exact hq) (h.perm (List.Perm.swap _ _ _))
                rw [show (qs.drop j).eraseIdx 0 = qs.drop (j + 1) by rw [List.eraseIdx_zero, List.tail_drop]] at h5
                exact h5
              (refine hc_seq ?_; refine hc_seq ?_; refine hc_lex ?_; refine hx_plain rfl ?_; refine h_move rfl rfl rfl rfl ?_; refine hx_plain rfl ?_; refine h_move rfl rfl rfl rfl ?_; refine hx_plain rfl ?_; refine h_len_slice rfl rfl rfl UC.out rfl rfl rfl ?_; refine hx_plain rfl ?_; refine h_cmp rfl rfl rfl rfl rfl rfl ?_; refine hx_plain rfl ?_; refine h_move rfl rfl rfl rfl ?_; refine hx_gT rfl rfl rfl (by first | omega | (dsimp only; omega)) ?_; refine hx_yes rfl rfl rfl ?_; refine h_move rfl rfl rfl rfl ?_; refine hx_yes rfl rfl rfl ?_; refine h_cmp rfl rfl rfl rfl rfl rfl ?_; refine hx_plain rfl ?_; refine h_pickT rfl rfl rfl rfl rfl ?_; refine hx_nil ?_; refine hq_then ?_; refine hc_condDT rfl (by first | omega | (dsimp only; omega)) ?_; refine hc_skip ?_; refine hq_then ?_; refine hc_seq ?_; refine hc_block ?_; refine hc_lex ?_; refine hx_plain rfl ?_; refine h_move rfl rfl rfl rfl ?_; refine hx_plain rfl ?_; refine h_move rfl rfl rfl rfl ?_; refine hx_plain rfl ?_; refine h_move rfl rfl rfl rfl ?_; refine hx_plain rfl ?_; refine h_rowAddr rfl rfl rfl UC.out IC.size (by first | omega | (dsimp only; omega)) (by first | omega | (dsimp only; omega)) rfl rfl ?_; refine hx_plain rfl ?_; refine h_fieldAddr rfl rfl FC.out rfl rfl ?_; refine hx_plain rfl ?_; refine h_rowLoad rfl (.tail (.tail .head)) rfl UC.out rfl (by with_reducible assumption) rfl rfl rfl ?_; refine hx_plain rfl ?_)
              refine h_call rfl rfl rfl rfl rfl rfl rfl rfl EC.out (.cons (.tail (.tail (.tail (.tail (.tail .head))))) (.cons .head .nil)) (hkeep_spec (ents := en') (sl := q.sl) (bs := q.f.data) (by omega) (by omega)) ?_
              rintro u M ⟨rfl, tw, rfl⟩
              (refine hx_nil ?_; refine hq_norm_block ?_; refine hq_then ?_; refine hc_lex ?_; refine hx_plain rfl ?_; refine h_move rfl rfl rfl rfl ?_; refine hx_plain rfl ?_; refine h_arithI rfl rfl rfl rfl (by first | omega | (dsimp only; omega)) rfl rfl ?_; refine hx_plain rfl ?_; refine h_assign rfl rfl rfl rfl ?_; refine hx_nil ?_)
              refine hq_round (j + 1, en' ++ [HoE.mk q.sl tw q.f.data]) (by show 3 - (j + 1) < 3 - j; omega) ⟨by show j + 1 ≤ qs.length; omega, by show j + 1 ≤ 3; omega, by show (en' ++ [_]).length ≤ _; rw [List.length_append]; show en'.length + 1 ≤ _; omega, fun q' hq' => ?_⟩ (.cons rfl (.cons rfl (.cons rfl (.cons rfl (.cons rfl (.cons rfl (.cons rfl (.cons rfl (.cons rfl (.cons rfl .nil)))))))))) (fun w' h => ?_)
              · rcases List.mem_append.1 (show q' ∈ en' ++ [_] from hq') with hq' | hq'
                · exact hj4 q' hq'
                · simp at hq'
                  subst hq'
                  exact hqb
              · exact St.rowV_mk (h.sub (.cons (.tail (.tail .head)) (.cons (.tail .head) (.cons (.tail .head) (.cons (.tail .head) (.cons .head (.cons .head (.cons .head (.cons .head .nil)))))))))
            · by_cases h1 : j < qs.length
              · (refine hc_seq ?_; refine hc_seq ?_; refine hc_lex ?_; refine hx_plain rfl ?_; refine h_move rfl rfl rfl rfl ?_; refine hx_plain rfl ?_; refine h_move rfl rfl rfl rfl ?_; refine hx_plain rfl ?_; refine h_len_slice rfl rfl rfl UC.out rfl rfl rfl ?_; refine hx_plain rfl ?_; refine h_cmp rfl rfl rfl rfl rfl rfl ?_; refine hx_plain rfl ?_; refine h_move rfl rfl rfl rfl ?_; refine hx_gT rfl rfl rfl (by first | omega | (dsimp only; omega)) ?_; refine hx_yes rfl rfl rfl ?_; refine h_move rfl rfl rfl rfl ?_; refine hx_yes rfl rfl rfl ?_; refine h_cmp rfl rfl rfl rfl rfl rfl ?_; refine hx_plain rfl ?_; refine h_pickT rfl rfl rfl rfl rfl ?_; refine hx_nil ?_; refine hq_then ?_; refine hc_condDF rfl (by first | omega | (dsimp only; omega)) ?_; refine hc_exit ?_; refine hq_exit_then ?_; refine hq_exit_then ?_)
                exact hq_cut en' ⟨by show en'.length ≤ _; omega, hj4⟩ (.cons rfl (.cons rfl (.cons rfl (.cons rfl (.cons rfl (.cons rfl (.cons rfl (.cons rfl (.cons rfl .nil))))))))) (fun _ h => h.sub (.cons .head (.cons (.tail .head) (.cons (.tail .head) (.cons (.tail .head) (.cons (.tail .head) (.cons (.tail .head) (.cons (.tail .head) .nil))))))))
              · (refine hc_seq ?_; refine hc_seq ?_; refine hc_lex ?_; refine hx_plain rfl ?_; refine h_move rfl rfl rfl rfl ?_; refine hx_plain rfl ?_; refine h_move rfl rfl rfl rfl ?_; refine hx_plain rfl ?_; refine h_len_slice rfl rfl rfl UC.out rfl rfl rfl ?_; refine hx_plain rfl ?_; refine h_cmp rfl rfl rfl rfl rfl rfl ?_; refine hx_plain rfl ?_; refine h_move rfl rfl rfl rfl ?_; refine hx_gF rfl rfl rfl (by first | omega | (dsimp only; omega)) ?_; refine hx_skip rfl rfl rfl rfl rfl rfl ?_; refine hx_skip rfl rfl rfl rfl rfl rfl ?_; refine hx_plain rfl ?_; refine h_pickF rfl rfl rfl rfl rfl ?_; refine hx_nil ?_; refine hq_then ?_; refine hc_condF rfl ?_; refine hc_exit ?_; refine hq_exit_then ?_; refine hq_exit_then ?_)
                exact hq_cut en' ⟨by show en'.length ≤ _; omega, hj4⟩ (.cons rfl (.cons rfl (.cons rfl (.cons rfl (.cons rfl (.cons rfl (.cons rfl (.cons rfl (.cons rfl .nil))))))))) (fun _ h => h.sub (.cons .head (.cons (.tail .head) (.cons (.tail .head) (.cons (.tail .head) (.cons (.tail .head) (.cons (.tail .head) (.cons (.tail .head) .nil))))))))
          rintro en' ⟨hel', heb2⟩
          have hfm : (fl'.map (·.1)).length = fl'.length := List.length_map _
          (refine hq_exit_block ?_; refine hq_then ?_; refine hc_lex ?_; refine hx_plain rfl ?_; refine h_move rfl rfl rfl rfl ?_; refine hx_plain rfl ?_; refine h_move rfl rfl rfl rfl ?_; refine hx_plain rfl ?_; (refine h_buildSlice rfl rfl rfl UC.out IC.size IC.zero rfl rfl (by intro v hv; simp at hv; first | (subst hv; rfl) | (rcases hv with rfl | rfl <;> rfl) | (rcases hv with rfl | rfl | rfl <;> rfl)) (by first | omega | (dsimp only; omega)) rfl rfl (fun _ => ?_)); refine hx_plain rfl ?_)
          refine h_appendR (m := 1) (E := slE) (T := 48) (xs := fl'.map (·.1)) (ys := [⟨av, qs.length, cv⟩]) rfl rfl rfl rfl rfl UC.out IC.out rfl (.cons (.tail (.tail (.tail (.tail (.tail .head))))) (.cons .head .nil)) rfl rfl (one_row slE _) (by unfold maxLen; omega) (by omega) rfl rfl (fun g4 c4 => ?_)
          (refine hx_plain rfl ?_; refine h_assign rfl rfl rfl rfl ?_; refine hx_nil ?_; refine hq_norm_block ?_; refine hq_then ?_; refine hc_lex ?_; refine hx_plain rfl ?_; refine h_move rfl rfl rfl rfl ?_; refine hx_plain rfl ?_; refine h_arithI rfl rfl rfl rfl (by first | omega | (dsimp only; omega)) rfl rfl ?_; refine hx_plain rfl ?_; refine h_assign rfl rfl rfl rfl ?_; refine hx_nil ?_)
          refine hq_round (k + 1, en', fl' ++ [(SlV.mk av qs.length cv, qs)], .slice (some ⟨g4, 0, none⟩) (fl'.map (·.1) ++ [SlV.mk av qs.length cv]).length c4) (by show 2 - (k + 1) < 2 - k; omega) ⟨by show k + 1 ≤ 2; omega, by show en'.length ≤ _; omega, heb2, by show (fl' ++ [_]).length = _; rw [List.length_append]; show fl'.length + 1 = _; omega, fun q hq => ?_⟩ (.cons rfl (.cons rfl (.cons rfl (.cons rfl (.cons rfl (.cons rfl (.cons rfl (.cons rfl .nil)))))))) (fun w' h => ?_)
          · rcases List.mem_append.1 (show q ∈ fl' ++ [_] from hq) with hq | hq
            · exact hfb' q hq
            · simp at hq
              subst hq
              show qs.length ≤ 4096
              omega
          · have h1 := h.rowV_mk
            have h2 := shl_snoc (h1.pulls (M := [All (fl'.map rwQ), RowV qfE 52 _ _]) (.cons (.tail (.tail (.tail (.tail (.tail (.tail .head)))))) (.cons (.tail (.tail .head)) .nil)))
            rw [show (k + 1, en', fl' ++ [(SlV.mk av qs.length cv, qs)], Value.slice (some ⟨g4, 0, none⟩) (fl'.map (·.1) ++ [SlV.mk av qs.length cv]).length c4).2.2.1 = fl' ++ [(SlV.mk av qs.length cv, qs)] from rfl, List.map_append, List.map_append]
            exact h2.sub (.cons (.tail (.tail (.tail .head))) (.cons (.tail (.tail (.tail .head))) (.cons (.tail (.tail (.tail .head))) (.cons (.tail .head) (.cons .head (.cons (.tail .head) .nil))))))
        · (refine hc_seq ?_; refine hc_seq ?_; refine hc_lex ?_; refine hx_plain rfl ?_; refine h_move rfl rfl rfl rfl ?_; refine hx_plain rfl ?_; refine h_cmp rfl rfl rfl rfl rfl rfl ?_; refine hx_nil ?_; refine hq_then ?_; refine hc_condDF rfl (by first | omega | (dsimp only; omega)) ?_; refine hc_exit ?_; refine hq_exit_then ?_; refine hq_exit_then ?_)
          obtain rfl : k = 2 := by omega
          exact hq_cut (en, fl', fv') ⟨by show en.length ≤ _; omega, heb', by show fl'.length = _; omega, hfb'⟩ (.cons rfl (.cons rfl (.cons rfl (.cons rfl (.cons rfl (.cons rfl (.cons rfl .nil))))))) (fun _ h => h)
      rintro ⟨en, fl', fv'⟩ ⟨hen, heb', hfl', hfb'⟩
      dsimp only at hen heb' hfl' hfb' ⊢
      (refine hq_exit_block ?_; refine hq_norm_block ?_; refine hq_then ?_; refine hc_lex ?_; refine hx_plain rfl ?_; refine h_move rfl rfl rfl rfl ?_; refine hx_plain rfl ?_; refine h_arithI rfl rfl rfl rfl (by first | omega | (dsimp only; omega)) rfl rfl ?_; refine hx_plain rfl ?_; refine h_assign rfl rfl rfl rfl ?_; refine hx_nil ?_)
      exact hq_round (i + 1, s', en, fl', fv', buf') (by show 30 - (i + 1) < 30 - i; omega) ⟨by show i + 1 ≤ xs.length; omega, by show i + 1 ≤ 30; omega, by exact ⟨by show OwI s' ((i + 1 : Nat) : Int); exact hI.mono (by omega), hen, heb', hfl', hfb', hbl⟩⟩ (.cons rfl (.cons rfl (.cons rfl (.cons rfl (.cons rfl (.cons rfl (.cons rfl .nil))))))) (fun _ h => h)
      -- </C>
    · by_cases h1 : i < xs.length
      · (refine hc_seq ?_; refine hc_seq ?_; refine hc_lex ?_; refine hx_plain rfl ?_; refine h_move rfl rfl rfl rfl ?_; refine hx_plain rfl ?_; refine h_move rfl rfl rfl rfl ?_; refine hx_plain rfl ?_; refine h_len_slice rfl rfl rfl UC.out rfl rfl rfl ?_; refine hx_plain rfl ?_; refine h_cmp rfl rfl rfl rfl rfl rfl ?_; refine hx_plain rfl ?_; refine h_move rfl rfl rfl rfl ?_; refine hx_gT rfl rfl rfl (by first | omega | (dsimp only; omega)) ?_; refine hx_yes rfl rfl rfl ?_; refine h_move rfl rfl rfl rfl ?_; refine hx_yes rfl rfl rfl ?_; refine h_cmp rfl rfl rfl rfl rfl rfl ?_; refine hx_plain rfl ?_; refine h_pickT rfl rfl rfl rfl rfl ?_; refine hx_nil ?_; refine hq_then ?_; refine hc_condDF rfl (by first | omega | (dsimp only; omega)) ?_; refine hc_exit ?_; refine hq_exit_then ?_; refine hq_exit_then ?_)
        exact hq_cut (s, ents, fl, fv, buf) ⟨i, hi30, hJ⟩ (.cons rfl (.cons rfl (.cons rfl (.cons rfl .nil)))) (fun _ h => h)
      · (refine hc_seq ?_; refine hc_seq ?_; refine hc_lex ?_; refine hx_plain rfl ?_; refine h_move rfl rfl rfl rfl ?_; refine hx_plain rfl ?_; refine h_move rfl rfl rfl rfl ?_; refine hx_plain rfl ?_; refine h_len_slice rfl rfl rfl UC.out rfl rfl rfl ?_; refine hx_plain rfl ?_; refine h_cmp rfl rfl rfl rfl rfl rfl ?_; refine hx_plain rfl ?_; refine h_move rfl rfl rfl rfl ?_; refine hx_gF rfl rfl rfl (by first | omega | (dsimp only; omega)) ?_; refine hx_skip rfl rfl rfl rfl rfl rfl ?_; refine hx_skip rfl rfl rfl rfl rfl rfl ?_; refine hx_plain rfl ?_; refine h_pickF rfl rfl rfl rfl rfl ?_; refine hx_nil ?_; refine hq_then ?_; refine hc_condF rfl ?_; refine hc_exit ?_; refine hq_exit_then ?_; refine hq_exit_then ?_)
        exact hq_cut (s, ents, fl, fv, buf) ⟨i, hi30, hJ⟩ (.cons rfl (.cons rfl (.cons rfl (.cons rfl .nil)))) (fun _ h => h)
  -- <E>
  rintro ⟨s, ents, fl, fv, buf⟩ ⟨i, hi, hJ⟩
  unfold owP
  dsimp only at hJ ⊢
  have hen := hJ.en
  have hfn := hJ.fn
  (refine hq_exit_block ?_; refine hq_then ?_; refine hc_seq ?_; refine hc_lex ?_; refine hx_plain rfl ?_; refine h_move rfl rfl rfl rfl ?_; refine hx_plain rfl ?_)
  refine h_call rfl rfl rfl rfl rfl rfl rfl rfl EC.out (.cons (.tail (.tail .head)) .nil) (hwhole_spec (by omega)) ?_
  rintro u M ⟨rfl, rfl⟩
  (refine hx_plain rfl ?_; refine h_assign rfl rfl rfl rfl ?_; refine hx_nil ?_; refine hq_then ?_; refine hc_seq ?_; refine hc_lex ?_; refine hx_plain rfl ?_; refine h_move rfl rfl rfl rfl ?_; refine hx_plain rfl ?_)
  refine h_call rfl rfl rfl rfl rfl rfl rfl rfl EC.out (.cons .head .nil) (hapart_spec (by omega) (fun q hq => Nat.le_trans (hJ.eb q hq) (by decide))) ?_
  rintro u M ⟨rfl, rfl⟩
  (refine hx_plain rfl ?_; refine h_assign rfl rfl rfl rfl ?_; refine hx_nil ?_; refine hq_then ?_; refine hc_seq ?_; refine hc_lex ?_; refine hx_plain rfl ?_; refine h_move rfl rfl rfl rfl ?_; refine hx_plain rfl ?_)
  refine h_call rfl rfl rfl rfl rfl rfl rfl rfl EC.out (.cons (.tail (.tail .head)) (.cons (.tail (.tail .head)) .nil)) (apartFlights_spec (by omega) (fun q hq => Nat.le_trans (hJ.fb q hq) (by decide))) ?_
  rintro u M ⟨rfl, rfl⟩
  (refine hx_plain rfl ?_; refine h_assign rfl rfl rfl rfl ?_; refine hx_nil ?_; refine hq_then ?_; refine hc_seq ?_; refine hc_lex ?_; refine hx_plain rfl ?_; refine h_move rfl rfl rfl rfl ?_; refine hx_plain rfl ?_)
  refine h_call rfl rfl rfl rfl rfl rfl rfl rfl EC.out (.cons .head .nil) (under_spec hJ.net.ok hJ.net.big) ?_
  rintro u M rfl
  (refine hx_plain rfl ?_; refine h_move rfl rfl rfl rfl ?_; refine hx_plain rfl ?_)
  refine h_call rfl rfl rfl rfl rfl rfl rfl rfl EC.out (.cons (.tail (.tail .head)) .nil) (runder_spec hJ.net.ok hJ.net.big) ?_
  rintro u2 M rfl
  (refine hx_plain rfl ?_)
  refine h_callRd rfl rfl rfl rfl rfl rfl EC.out (fun w' h => sameFlights (h.rdFlO (.tail (.tail .head))) (h.rdFlO .head)) ?_
  rw [show decide (s.l = s.l) = true from decide_eq_true rfl]
  (refine hx_plain rfl ?_; refine h_assign rfl rfl rfl rfl ?_; refine hx_nil ?_; refine hq_then ?_; refine hc_seq ?_; refine hc_lex ?_; refine hx_plain rfl ?_; refine h_move rfl rfl rfl rfl ?_; refine hx_plain rfl ?_; refine h_move rfl rfl rfl rfl ?_; refine hx_yes rfl rfl rfl ?_; refine h_move rfl rfl rfl rfl ?_; refine hx_plain rfl ?_; refine h_pickT rfl rfl rfl rfl rfl ?_; refine hx_plain rfl ?_; refine h_move rfl rfl rfl rfl ?_; refine hx_yes rfl rfl rfl ?_; refine h_move rfl rfl rfl rfl ?_; refine hx_plain rfl ?_; refine h_pickT rfl rfl rfl rfl rfl ?_; refine hx_plain rfl ?_; refine h_move rfl rfl rfl rfl ?_; refine hx_yes rfl rfl rfl ?_; refine h_move rfl rfl rfl rfl ?_; refine hx_plain rfl ?_; refine h_pickT rfl rfl rfl rfl rfl ?_; refine hx_plain rfl ?_; refine h_assign rfl rfl rfl rfl ?_; refine hx_nil ?_; refine hq_then ?_; refine hc_ret ?_)
  exact hq_ret1 (.inr rfl) rfl rfl ⟨rfl, rfl⟩ (fun _ h => h.emp)
  -- </E>
end Go.Proofs.Ytbfmmgbfliebhaa
