import Derived.Test.YtbfmmgbfliebhaaN12
namespace Go.Proofs.Ytbfmmgbfliebhaa
open Go Go.Proofs
set_option maxRecDepth 4000

/-- A list that is handed in, beside its bytes. -/
def LstR (w : World) (q : SlV × List Int) : Prop := Rd byteE w q.1.v q.2 ∧ q.2.length ≤ 140737488351232
/-- Just the numbers 1 to n are under way, in this order. -/
structure NSeq (s : NS) (n : Nat) : Prop where
  ok : s.Ok
  giv : s.given = n
  len : s.l.length = n
  nos : ∀ (k : Nat) (f : Fl), s.l[k]? = some f → f.no = (k : Int) + 1
  dat : ∀ f ∈ s.l, f.data.length ≤ 140737488355200
theorem NSeq.new : NSeq NS.new 0 := ⟨NS.new_ok, rfl, rfl, fun k f h => (by cases h), fun f h => absurd h List.not_mem_nil⟩
theorem NSeq.send {s : NS} {n : Nat} (h : NSeq s n) (hn : n < 4096) (to : Int) {d : List Int} (hd : d.length ≤ 140737488355200) : NSeq (s.send to d) (n + 1) := by
  have e : s.send to d = s.add to d := by unfold NS.send; rw [if_pos (by rw [h.len]; exact hn)]
  refine ⟨NS.send_ok h.ok to d, ?_, ?_, ?_, ?_⟩
  · rw [e]
    show s.given + 1 = _
    rw [h.giv]
    rfl
  · rw [e]
    show (s.l ++ [_]).length = n + 1
    rw [List.length_append, h.len]
    rfl
  · rw [e]
    intro k f hk
    replace hk : (s.l ++ [(⟨s.given + 1, to, d⟩ : Fl)])[k]? = some f := hk
    rcases Nat.lt_or_ge k s.l.length with hlt | hge
    · rw [List.getElem?_append_left hlt] at hk
      exact h.nos k f hk
    · rw [List.getElem?_append_right hge] at hk
      have hk0 : k - s.l.length = 0 := by
        have := (List.getElem?_eq_some_iff.1 hk).1
        simpa using this
      rw [hk0] at hk
      injection hk with hk
      subst hk
      show s.given + 1 = (k : Int) + 1
      rw [h.giv, ← h.len]
      omega
  · rw [e]
    intro f hf
    rcases List.mem_append.1 hf with hf | hf
    · exact h.dat f hf
    · simp at hf
      subst hf
      exact hd
theorem NSeq.sent {s : NS} {n : Nat} (h : NSeq s n) (hn : n < 4096) : s.sent = (n : Int) + 1 := by
  unfold NS.sent
  rw [if_pos (by rw [h.len]; exact hn), h.giv]
theorem NSeq.none {s : NS} {n : Nat} (h : NSeq s n) {no : Int} (hno : no < 1 ∨ (n : Int) < no) : s.find no = none := by
  cases hf : s.find no with
  | none => rfl
  | some f =>
    obtain ⟨hm, e⟩ := NS.find_some hf
    obtain ⟨k, hk⟩ := List.mem_iff_getElem?.1 hm
    have h1 := h.nos k f hk
    have h2 := (List.getElem?_eq_some_iff.1 hk).1
    rw [h.len] at h2
    omega
set_option maxHeartbeats 4000000 in
theorem refuses_law {xs : List (SlV × List Int)} {w : World} {v0 : Value} (no at_ v : Int) (h0 : Rd slE w v0 (xs.map (·.1))) (hx : ∀ q ∈ xs, LstR w q) (hno : -9223372036854775808 ≤ no ∧ no ≤ 9223372036854775807) :
    Calls Try.prog 7 [v0, .int .i64 no, .int .i64 at_, .int .i64 v].toArray w (fun en w' => en = .returned (.bool true) ∧ But w w' nowhere) := by
  obtain ⟨a0, c0, rfl, l0, m0, k0⟩ := id h0
  rw [List.length_map] at l0
  unfold maxLen at m0
  refine reads_of Try.func7 rfl rfl (Nat.le_of_ble_eq_true rfl) ?_
  have hB : But w w nowhere := .refl w _
  have hF : ∀ b, nowhere b → w.heap.size ≤ b := fun _ h => h.elim
  rw [List.length_map]
  (refine hc_seq ?_; refine hc_lex ?_; refine hx_plain rfl ?_; refine h_assign rfl rfl rfl rfl ?_; refine hx_nil ?_; refine hq_then ?_; refine hc_seq ?_; refine hc_lex ?_; refine hx_plain rfl ?_)
  refine h_call rfl rfl rfl rfl rfl rfl rfl rfl EC.out .nil known_spec ?_
  rintro u M ⟨rfl, rfl⟩
  (refine hx_plain rfl ?_; refine h_assign rfl rfl rfl rfl ?_; refine hx_nil ?_; refine hq_then ?_; refine hc_seq ?_; refine hc_lex ?_; refine hx_plain rfl ?_)
  refine h_call rfl rfl rfl rfl rfl rfl rfl rfl EC.out .nil new_spec ?_
  rintro u M ⟨p, rfl, rfl⟩
  (refine hx_plain rfl ?_; refine h_assign rfl rfl rfl rfl ?_; refine hx_nil ?_; refine hq_then ?_; refine hc_seq ?_; refine hc_seq ?_; refine hc_lex ?_; refine hx_plain rfl ?_; refine h_move rfl rfl rfl rfl ?_; refine hx_plain rfl ?_; refine h_not rfl rfl rfl rfl ?_; refine hx_plain rfl ?_; refine h_move rfl rfl rfl rfl ?_; refine hx_yes rfl rfl rfl ?_; refine h_move rfl rfl rfl rfl ?_; refine hx_yes rfl rfl rfl ?_; refine h_eqNil rfl rfl rfl UC.out rfl rfl ?_; refine hx_plain rfl ?_; refine h_pickF rfl rfl rfl rfl rfl ?_; refine hx_nil ?_; refine hq_then ?_; refine hc_condF rfl ?_; refine hc_skip ?_; refine hq_then ?_; refine hc_seq ?_; refine hc_seq ?_; refine hc_lex ?_; refine hx_plain rfl ?_; refine h_assign rfl rfl rfl rfl ?_; refine hx_nil ?_; refine hq_then ?_; refine hc_block ?_)
  refine hc_cut (id := 0) (Y := Nat × NS) (fun _ => [(1, .int .i64 no), (2, .int .i64 at_), (3, .int .i64 v), (10, .pointer (some ⟨p, 0, none⟩))]) (fun y => [NetO p y.2]) (fun y => NSeq y.2 y.1 ∧ y.1 ≤ 300) ?_ ?_
  · refine hc_loop (X := Nat × NS) (fun x => [(0, .slice a0 xs.length c0), (1, .int .i64 no), (2, .int .i64 at_), (3, .int .i64 v), (10, .pointer (some ⟨p, 0, none⟩)), (11, .int .i64 (x.1 : Int))]) (fun x => [NetO p x.2]) (fun x => NSeq x.2 x.1 ∧ x.1 ≤ 300) (fun x => 300 - x.1) (0, NS.new) (.cons rfl (.cons rfl (.cons rfl (.cons rfl (.cons rfl (.cons rfl .nil)))))) ⟨NSeq.new, Nat.zero_le _⟩ (fun _ h => h) ?_
    rintro ⟨i, s⟩ ⟨hs, hi⟩
    dsimp only at hi hs ⊢
    by_cases hlt : i < xs.length ∧ i < 300
    · obtain ⟨hlt, hlt2⟩ := hlt
      have hxs : xs ≠ [] := by
        intro e
        rw [e] at hlt
        exact absurd hlt (Nat.not_lt_zero _)
      obtain ⟨g0, f0, rfl, r1⟩ := k0.resolve_left (by simpa using hxs)
      obtain ⟨q, hq⟩ : ∃ q, xs[i]? = some q := ⟨_, List.getElem?_eq_getElem hlt⟩
      have e1 : (xs.map (·.1))[((i : Nat) : Int).toNat]? = some q.1 := by
        rw [List.getElem?_map]
        show (xs[i]?).map _ = _
        rw [hq]
        rfl
      obtain ⟨hqr, hql⟩ := hx q (List.mem_iff_getElem?.2 ⟨i, hq⟩)
      have hg : s.given ≤ 4611686018427387904 := by rw [hs.giv]; omega
      (refine hc_seq ?_; refine hc_seq ?_; refine hc_lex ?_; refine hx_plain rfl ?_; refine h_move rfl rfl rfl rfl ?_; refine hx_plain rfl ?_; refine h_move rfl rfl rfl rfl ?_; refine hx_plain rfl ?_; refine h_len_slice rfl rfl rfl UC.out rfl rfl rfl ?_; refine hx_plain rfl ?_; refine h_cmp rfl rfl rfl rfl rfl rfl ?_; refine hx_plain rfl ?_; refine h_move rfl rfl rfl rfl ?_; refine hx_gT rfl rfl rfl (by omega) ?_; refine hx_yes rfl rfl rfl ?_; refine h_move rfl rfl rfl rfl ?_; refine hx_yes rfl rfl rfl ?_; refine h_cmp rfl rfl rfl rfl rfl rfl ?_; refine hx_plain rfl ?_; refine h_pickT rfl rfl rfl rfl rfl ?_; refine hx_nil ?_; refine hq_then ?_; refine hc_condDT rfl (by omega) ?_; refine hc_skip ?_; refine hq_then ?_; refine hc_seq ?_; refine hc_block ?_; refine hc_lex ?_; refine hx_plain rfl ?_; refine h_move rfl rfl rfl rfl ?_; refine hx_plain rfl ?_; refine h_move rfl rfl rfl rfl ?_; refine hx_plain rfl ?_; refine h_move rfl rfl rfl rfl ?_; refine hx_plain rfl ?_; refine h_move rfl rfl rfl rfl ?_; refine hx_plain rfl ?_; refine h_indexAddr rfl rfl rfl UC.out IC.size (by omega) (by omega) rfl rfl ?_; refine hx_plain rfl ?_; refine h_rdLoad1 rfl r1 rfl UC.out rfl (by with_reducible assumption) rfl rfl rfl ?_; refine hx_plain rfl ?_; refine h_build rfl inferInstance rfl rfl rfl rfl ?_; refine hx_plain rfl ?_)
      refine h_callB hB hF rfl rfl rfl rfl rfl rfl rfl rfl EC.out (.cons .head .nil) (sendB (to := (i : Int)) hs.ok hg hqr (by omega)) ?_
      rintro u M ⟨rfl, rfl⟩
      (refine hx_nil ?_; refine hq_norm_block ?_; refine hq_then ?_; refine hc_lex ?_; refine hx_plain rfl ?_; refine h_move rfl rfl rfl rfl ?_; refine hx_plain rfl ?_; refine h_arithI rfl rfl rfl rfl (by omega) rfl rfl ?_; refine hx_plain rfl ?_; refine h_assign rfl rfl rfl rfl ?_; refine hx_nil ?_)
      exact hq_round (i + 1, s.send i q.2) (by show 300 - (i + 1) < 300 - i; omega) ⟨hs.send (by omega) i (by omega), by show i + 1 ≤ 300; omega⟩ (.cons rfl (.cons rfl (.cons rfl (.cons rfl (.cons rfl (.cons rfl .nil)))))) (fun _ h => h)
    · by_cases hlt1 : i < xs.length
      · have hi3 : ¬ (i : Int) < 300 := by omega
        (refine hc_seq ?_; refine hc_seq ?_; refine hc_lex ?_; refine hx_plain rfl ?_; refine h_move rfl rfl rfl rfl ?_; refine hx_plain rfl ?_; refine h_move rfl rfl rfl rfl ?_; refine hx_plain rfl ?_; refine h_len_slice rfl rfl rfl UC.out rfl rfl rfl ?_; refine hx_plain rfl ?_; refine h_cmp rfl rfl rfl rfl rfl rfl ?_; refine hx_plain rfl ?_; refine h_move rfl rfl rfl rfl ?_; refine hx_gT rfl rfl rfl (by omega) ?_; refine hx_yes rfl rfl rfl ?_; refine h_move rfl rfl rfl rfl ?_; refine hx_yes rfl rfl rfl ?_; refine h_cmp rfl rfl rfl rfl rfl rfl ?_; refine hx_plain rfl ?_; refine h_pickT rfl rfl rfl rfl rfl ?_; refine hx_nil ?_; refine hq_then ?_; refine hc_condDF rfl (by omega) ?_; refine hc_exit ?_; refine hq_exit_then ?_; refine hq_exit_then ?_)
        exact hq_cut (i, s) ⟨hs, hi⟩ (.cons rfl (.cons rfl (.cons rfl (.cons rfl .nil)))) (fun _ h => h)
      · (refine hc_seq ?_; refine hc_seq ?_; refine hc_lex ?_; refine hx_plain rfl ?_; refine h_move rfl rfl rfl rfl ?_; refine hx_plain rfl ?_; refine h_move rfl rfl rfl rfl ?_; refine hx_plain rfl ?_; refine h_len_slice rfl rfl rfl UC.out rfl rfl rfl ?_; refine hx_plain rfl ?_; refine h_cmp rfl rfl rfl rfl rfl rfl ?_; refine hx_plain rfl ?_; refine h_move rfl rfl rfl rfl ?_; refine hx_gF rfl rfl rfl (by omega) ?_; refine hx_skip rfl rfl rfl rfl rfl rfl ?_; refine hx_skip rfl rfl rfl rfl rfl rfl ?_; refine hx_plain rfl ?_; refine h_pickF rfl rfl rfl rfl rfl ?_; refine hx_nil ?_; refine hq_then ?_; refine hc_condF rfl ?_; refine hc_exit ?_; refine hq_exit_then ?_; refine hq_exit_then ?_)
        exact hq_cut (i, s) ⟨hs, hi⟩ (.cons rfl (.cons rfl (.cons rfl (.cons rfl .nil)))) (fun _ h => h)
  rintro ⟨n, s⟩ ⟨hs, hn⟩
  dsimp only at hs hn ⊢
  (refine hq_exit_block ?_; refine hq_then ?_; refine hc_seq ?_; refine hc_lex ?_; refine hx_plain rfl ?_; refine h_move rfl rfl rfl rfl ?_; refine hx_plain rfl ?_)
  refine h_call rfl rfl rfl rfl rfl rfl rfl rfl EC.out (.cons .head .nil) (under_spec hs.ok hs.dat) ?_
  rintro u M rfl
  (refine hx_plain rfl ?_; refine h_assign rfl rfl rfl rfl ?_; refine hx_nil ?_; refine hq_then ?_)
  refine hc_openP .head FlO_open ?_
  intro qs hq
  refine hc_know (fun _ h => St.rowV_shapeS h .head) ?_
  rintro ⟨ua, uc, rfl⟩
  have hql : qs.length = n := by rw [← hs.len, ← hq, List.length_map]
  by_cases hu : 1 ≤ no ∧ no ≤ n
  case neg =>
    have hf : s.find no = none := hs.none (by omega)
    refine hc_conv (C' := St w nowhere [FlO (.slice ua qs.length uc) s.l, NetO p s]) (fun _ h => FlO_shut hq h) ?_
    refine hc_seq ?_
    refine hc_lex ?_
    have hdec : 1 ≤ no → decide (no ≤ (qs.length : Int)) = false := fun h => decide_eq_false (by omega)
    by_cases hu1 : 1 ≤ no
    ·
      (refine hx_plain rfl ?_; refine h_move rfl rfl rfl rfl ?_; refine hx_plain rfl ?_; refine h_cmp rfl rfl rfl rfl rfl rfl ?_; refine hx_plain rfl ?_; refine h_move rfl rfl rfl rfl ?_; refine hx_gT rfl rfl rfl (by omega) ?_; refine hx_yes rfl rfl rfl ?_; refine h_move rfl rfl rfl rfl ?_; refine hx_yes rfl rfl rfl ?_; refine h_move rfl rfl rfl rfl ?_; refine hx_yes rfl rfl rfl ?_; refine h_len_slice rfl rfl rfl UC.out rfl rfl rfl ?_; refine hx_yes rfl rfl rfl ?_; refine h_cmp rfl rfl rfl rfl rfl rfl ?_; refine hx_plain rfl ?_; refine h_pickT rfl rfl rfl rfl rfl ?_; refine hx_plain rfl ?_; refine h_assign rfl rfl rfl rfl ?_; refine hx_nil ?_; refine hq_then ?_)
      try rw [hdec hu1]
      refine hc_meet (Y := NS) (fun _ => [(10, .pointer (some ⟨p, 0, none⟩)), (12, .slice ua qs.length uc)]) (fun y => [FlO (.slice ua qs.length uc) y.l, NetO p y]) (fun y => y.Ok ∧ ∀ f ∈ y.l, f.data.length ≤ 140737488355200) ?_ ?_
      · (refine hc_seq ?_; refine hc_lex ?_; refine hx_plain rfl ?_; refine h_move rfl rfl rfl rfl ?_; refine hx_plain rfl ?_; refine h_not rfl rfl rfl rfl ?_; refine hx_nil ?_; refine hq_then ?_; refine hc_condT rfl ?_; refine hc_seq ?_; refine hc_lex ?_; refine hx_plain rfl ?_; refine h_move rfl rfl rfl rfl ?_; refine hx_plain rfl ?_; refine h_move rfl rfl rfl rfl ?_; refine hx_plain rfl ?_)
        refine h_call rfl rfl rfl rfl rfl rfl rfl rfl EC.out (.cons (.tail .head) .nil) (take_spec no hs.ok) ?_
        rintro u M (⟨_, rfl, rfl⟩ | ⟨f, _, hf2, _⟩)
        rotate_left
        · rw [hf] at hf2; cases hf2
        (refine hx_plain rfl ?_; refine h_move rfl rfl rfl rfl ?_; refine hx_plain rfl ?_; refine h_extract rfl rfl rfl rfl rfl ?_; refine hx_plain rfl ?_; refine h_extract rfl rfl rfl rfl rfl ?_; refine hx_plain rfl ?_; (refine h_alloc rfl rfl IC.zero rfl rfl rfl (fun _ => ?_)); refine hx_plain rfl ?_; refine h_store rfl rfl rfl rfl rfl rfl IC.size .head rfl rfl (Nat.le_of_ble_eq_true rfl) (List.all_eq_true.1 rfl) ?_; refine hx_plain rfl ?_; refine h_assign rfl rfl rfl rfl ?_; refine hx_nil ?_; refine hq_then ?_; refine hc_seq ?_; refine hc_lex ?_; refine hx_plain rfl ?_; refine h_move rfl rfl rfl rfl ?_; refine hx_plain rfl ?_; refine h_move rfl rfl rfl rfl ?_; refine hx_plain rfl ?_)
        refine h_call rfl rfl rfl rfl rfl rfl rfl rfl EC.out (.cons (.tail .head) .nil) (drop_spec no hs.ok) ?_
        rintro u M ⟨rfl, rfl⟩
        rw [NS.errOf_none hf, NS.del_none hf]
        (refine hx_plain rfl ?_; refine h_assign rfl rfl rfl rfl ?_; refine hx_nil ?_; refine hq_then ?_; refine hc_seq ?_; refine hc_lex ?_; refine hx_plain rfl ?_; refine h_move rfl rfl rfl rfl ?_; refine hx_plain rfl ?_; refine h_move rfl rfl rfl rfl ?_; refine hx_plain rfl ?_)
        refine h_call rfl rfl rfl rfl rfl rfl rfl rfl EC.out (.cons .head .nil) (copy_spec no hs.ok (by rw [hs.giv]; omega) hs.dat) ?_
        rintro u M ⟨rfl, rfl⟩
        rw [NS.errOf_none hf, show s.copied no = 0 by unfold NS.copied; rw [hf], show s.copy no = s by unfold NS.copy; rw [hf]]
        (refine hx_plain rfl ?_; refine h_move rfl rfl rfl rfl ?_; refine hx_plain rfl ?_; refine h_extract rfl rfl rfl rfl rfl ?_; refine hx_plain rfl ?_; refine h_extract rfl rfl rfl rfl rfl ?_; refine hx_plain rfl ?_; refine h_assign rfl rfl rfl rfl ?_; refine hx_plain rfl ?_; refine h_assign rfl rfl rfl rfl ?_; refine hx_nil ?_; refine hq_then ?_; refine hc_seq ?_; refine hc_lex ?_; refine hx_plain rfl ?_; refine h_move rfl rfl rfl rfl ?_; refine hx_plain rfl ?_; refine h_move rfl rfl rfl rfl ?_; refine hx_plain rfl ?_)
        refine h_call rfl rfl rfl rfl rfl rfl rfl rfl EC.out (.cons .head .nil) (flip_spec no 0 1 hs.ok) ?_
        rintro u M ⟨rfl, rfl⟩
        rw [show s.flipE no 0 1 = 201 by unfold NS.flipE; rw [hf], show s.flip no 0 1 = s by unfold NS.flip; rw [hf]]
        (refine hx_plain rfl ?_; refine h_assign rfl rfl rfl rfl ?_; refine hx_nil ?_; refine hq_then ?_; refine hc_seq ?_; refine hc_lex ?_; refine hx_plain rfl ?_; refine h_move rfl rfl rfl rfl ?_; refine hx_plain rfl ?_)
        iterate 4
          refine h_callR rfl rfl rfl rfl rfl rfl EC.out ((num_spec _).reads _) ?_
          (repeat' (first | ((with_reducible refine mHX ?_); (first | refine hx_plain rfl ?_ | refine hx_nil ?_ | refine hx_yes rfl rfl rfl ?_ | refine hx_skip rfl rfl rfl rfl rfl rfl ?_ | refine hx_skipU rfl rfl rfl rfl rfl ?_ | refine hx_gT rfl rfl rfl (by omega) ?_ | refine hx_gF rfl rfl rfl (by omega) ?_ | refine hx_gcaseD rfl rfl rfl (fun hc => ?_) (fun hc => ?_) | refine hx_gcase rfl rfl rfl (fun hc => ?_) (fun hc => ?_))) | ((with_reducible refine mHX1 ?_); (first | refine h_move rfl rfl rfl rfl ?_ | refine h_assign rfl rfl rfl rfl ?_ | refine h_fieldAddr0 rfl rfl FC.out rfl rfl ?_ | refine h_fieldAddr rfl rfl FC.out rfl rfl ?_ | refine h_nilCheck rfl rfl rfl rfl ?_ | (refine kLoad rfl ?_; (first | refine h_load rfl rfl UC.out rfl .head rfl rfl rfl ?_ | refine h_load rfl rfl UC.out rfl (.tail .head) rfl rfl rfl ?_ | refine h_load rfl rfl UC.out rfl (.tail (.tail .head)) rfl rfl rfl ?_ | refine h_load rfl rfl UC.out rfl (.tail (.tail (.tail .head))) rfl rfl rfl ?_ | refine h_load rfl rfl UC.out rfl (.tail (.tail (.tail (.tail .head)))) rfl rfl rfl ?_ | refine h_load rfl rfl UC.out rfl (.tail (.tail (.tail (.tail (.tail .head))))) rfl rfl rfl ?_ | refine h_load2 rfl rfl UC.out rfl IC.size .head rfl rfl rfl rfl ?_ | refine h_load2 rfl rfl UC.out rfl IC.size (.tail .head) rfl rfl rfl rfl ?_ | refine h_load2 rfl rfl UC.out rfl IC.size (.tail (.tail .head)) rfl rfl rfl rfl ?_ | refine h_load2 rfl rfl UC.out rfl IC.size (.tail (.tail (.tail .head))) rfl rfl rfl rfl ?_ | refine h_load2 rfl rfl UC.out rfl IC.size (.tail (.tail (.tail (.tail .head)))) rfl rfl rfl rfl ?_ | refine h_load2 rfl rfl UC.out rfl IC.size (.tail (.tail (.tail (.tail (.tail .head))))) rfl rfl rfl rfl ?_ | refine h_rowLoad rfl .head rfl UC.out rfl (by with_reducible assumption) rfl rfl rfl ?_ | refine h_rowLoad rfl (.tail .head) rfl UC.out rfl (by with_reducible assumption) rfl rfl rfl ?_ | refine h_rowLoad rfl (.tail (.tail .head)) rfl UC.out rfl (by with_reducible assumption) rfl rfl rfl ?_ | refine h_rowLoad rfl (.tail (.tail (.tail .head))) rfl UC.out rfl (by with_reducible assumption) rfl rfl rfl ?_ | refine h_rowLoad rfl (.tail (.tail (.tail (.tail .head)))) rfl UC.out rfl (by with_reducible assumption) rfl rfl rfl ?_ | refine h_rowLoad rfl (.tail (.tail (.tail (.tail (.tail .head))))) rfl UC.out rfl (by with_reducible assumption) rfl rfl rfl ?_ | refine h_rowLoad0 rfl .head rfl UC.out rfl (by with_reducible assumption) rfl rfl rfl ?_ | refine h_rowLoad0 rfl (.tail .head) rfl UC.out rfl (by with_reducible assumption) rfl rfl rfl ?_ | refine h_rowLoad0 rfl (.tail (.tail .head)) rfl UC.out rfl (by with_reducible assumption) rfl rfl rfl ?_ | refine h_rowLoad0 rfl (.tail (.tail (.tail .head))) rfl UC.out rfl (by with_reducible assumption) rfl rfl rfl ?_ | refine h_rowLoad0 rfl (.tail (.tail (.tail (.tail .head)))) rfl UC.out rfl (by with_reducible assumption) rfl rfl rfl ?_ | refine h_rowLoad0 rfl (.tail (.tail (.tail (.tail (.tail .head))))) rfl UC.out rfl (by with_reducible assumption) rfl rfl rfl ?_ | refine h_rowLoadN rfl .head rfl UC.out rfl IC.size (by with_reducible assumption) rfl rfl rfl ?_ | refine h_rowLoadN rfl (.tail .head) rfl UC.out rfl IC.size (by with_reducible assumption) rfl rfl rfl ?_ | refine h_rowLoadN rfl (.tail (.tail .head)) rfl UC.out rfl IC.size (by with_reducible assumption) rfl rfl rfl ?_ | refine h_rowLoadN rfl (.tail (.tail (.tail .head))) rfl UC.out rfl IC.size (by with_reducible assumption) rfl rfl rfl ?_ | refine h_rowLoadN rfl (.tail (.tail (.tail (.tail .head)))) rfl UC.out rfl IC.size (by with_reducible assumption) rfl rfl rfl ?_ | refine h_rowLoadN rfl (.tail (.tail (.tail (.tail (.tail .head))))) rfl UC.out rfl IC.size (by with_reducible assumption) rfl rfl rfl ?_ | refine h_rdLoad rfl r1 rfl UC.out rfl (by with_reducible assumption) rfl rfl rfl ?_ | refine h_rdLoad1 rfl r1 rfl UC.out rfl (by with_reducible assumption) rfl rfl rfl ?_ | refine h_rdLoadN rfl r1 rfl UC.out rfl IC.size (by with_reducible assumption) rfl rfl rfl ?_ | refine h_loadP rfl rfl UC.out rfl IC.size .head rfl rfl rfl rfl ?_ | refine h_loadP rfl rfl UC.out rfl IC.size (.tail .head) rfl rfl rfl rfl ?_ | refine h_loadP rfl rfl UC.out rfl IC.size (.tail (.tail .head)) rfl rfl rfl rfl ?_ | refine h_loadP rfl rfl UC.out rfl IC.size (.tail (.tail (.tail .head))) rfl rfl rfl rfl ?_ | refine h_loadP rfl rfl UC.out rfl IC.size (.tail (.tail (.tail (.tail .head)))) rfl rfl rfl rfl ?_ | refine h_loadP rfl rfl UC.out rfl IC.size (.tail (.tail (.tail (.tail (.tail .head))))) rfl rfl rfl rfl ?_ | refine h_rowLoad1 rfl .head rfl UC.out rfl (by with_reducible assumption) rfl rfl rfl ?_ | refine h_rowLoad1 rfl (.tail .head) rfl UC.out rfl (by with_reducible assumption) rfl rfl rfl ?_ | refine h_rowLoad1 rfl (.tail (.tail .head)) rfl UC.out rfl (by with_reducible assumption) rfl rfl rfl ?_ | refine h_rowLoad1 rfl (.tail (.tail (.tail .head))) rfl UC.out rfl (by with_reducible assumption) rfl rfl rfl ?_ | refine h_rowLoad1 rfl (.tail (.tail (.tail (.tail .head)))) rfl UC.out rfl (by with_reducible assumption) rfl rfl rfl ?_ | refine h_rowLoad1 rfl (.tail (.tail (.tail (.tail (.tail .head))))) rfl UC.out rfl (by with_reducible assumption) rfl rfl rfl ?_)) | (refine kBin rfl ?_; (first | refine h_shrU rfl rfl rfl (by omega) rfl rfl ?_ | refine h_shlU rfl rfl rfl (by omega) rfl rfl ?_ | refine h_bits rfl rfl rfl rfl rfl rfl ?_ | refine h_cmp rfl rfl rfl rfl rfl rfl ?_ | refine h_cmpB rfl rfl rfl UC.out rfl rfl rfl ?_ | refine h_eqNil rfl rfl rfl UC.out rfl rfl ?_ | refine h_neqNil rfl rfl rfl UC.out rfl rfl ?_ | refine h_arithI rfl rfl rfl rfl (by omega) rfl rfl ?_ | refine h_quoI rfl rfl rfl (by omega) rfl rfl ?_ | refine h_remI rfl rfl rfl (by omega) rfl rfl ?_)) | (refine kStore rfl ?_; (first | refine h_store rfl rfl rfl rfl rfl rfl IC.size .head rfl rfl (Nat.le_of_ble_eq_true rfl) (List.all_eq_true.1 rfl) ?_ | refine h_store rfl rfl rfl rfl rfl rfl IC.size (.tail .head) rfl rfl (Nat.le_of_ble_eq_true rfl) (List.all_eq_true.1 rfl) ?_ | refine h_store rfl rfl rfl rfl rfl rfl IC.size (.tail (.tail .head)) rfl rfl (Nat.le_of_ble_eq_true rfl) (List.all_eq_true.1 rfl) ?_ | refine h_store rfl rfl rfl rfl rfl rfl IC.size (.tail (.tail (.tail .head))) rfl rfl (Nat.le_of_ble_eq_true rfl) (List.all_eq_true.1 rfl) ?_ | refine h_store rfl rfl rfl rfl rfl rfl IC.size (.tail (.tail (.tail (.tail .head)))) rfl rfl (Nat.le_of_ble_eq_true rfl) (List.all_eq_true.1 rfl) ?_ | refine h_store rfl rfl rfl rfl rfl rfl IC.size (.tail (.tail (.tail (.tail (.tail .head))))) rfl rfl (Nat.le_of_ble_eq_true rfl) (List.all_eq_true.1 rfl) ?_)) | refine h_pickT rfl rfl rfl rfl rfl ?_ | refine h_pickF rfl rfl rfl rfl rfl ?_ | refine h_not rfl rfl rfl rfl ?_ | refine h_extract rfl rfl rfl rfl rfl ?_ | refine h_len_slice rfl rfl rfl UC.out rfl rfl rfl ?_ | refine h_nilCheckF rfl rfl rfl rfl ?_ | refine h_field1 rfl rfl FC.out UC.out rfl rfl rfl rfl ?_ | refine h_fieldN rfl rfl FC.out UC.out rfl IC.size rfl rfl ?_ | refine h_rowAddr rfl rfl rfl UC.out IC.size (by omega) (by omega) rfl rfl ?_ | refine h_indexAddr rfl rfl rfl UC.out IC.size (by omega) (by omega) rfl rfl ?_ | refine h_build rfl inferInstance rfl rfl rfl rfl ?_ | refine h_sliceTo rfl rfl rfl UC.out IC.size (by omega) rfl rfl ?_ | refine h_convInt rfl rfl UC.out UC.out rfl rfl ?_ | (refine h_box rfl rfl rfl rfl rfl rfl (fun _ => ?_)) | (refine h_alloc rfl rfl IC.zero rfl rfl rfl (fun _ => ?_)))) | ((with_reducible refine mHC ?_); (first | refine hc_seq ?_ | refine hc_lex ?_ | refine hc_condT rfl ?_ | refine hc_condF rfl ?_ | refine hc_block ?_ | refine hc_ret ?_ | refine hc_exit ?_ | refine hc_skip ?_ | refine hc_condDT rfl (by omega) ?_ | refine hc_condDF rfl (by omega) ?_ | refine hc_condD rfl (fun hc => ?_) (fun hc => ?_) | refine hc_cond rfl (fun hc => ?_) (fun hc => ?_))) | ((with_reducible refine mHQ ?_); (first | with_reducible refine hq_then ?_ | with_reducible refine hq_ret_then ?_ | with_reducible refine hq_ret_block ?_ | with_reducible refine hq_exit_then ?_ | with_reducible refine hq_exit_block ?_ | with_reducible refine hq_norm_block ?_ | with_reducible refine hq_cut_ret ?_ | (refine hq_exit_other ?_ ?_; exact rfl) | (refine hq_cut_exit ?_ ?_; exact rfl)))))
        refine hq_met s ⟨hs.ok, hs.dat⟩ (.cons rfl (.cons rfl .nil)) (fun w' h => ?_)
        exact h.sub (.cons (.tail (.tail .head)) (.cons .head .nil))
      · rintro y ⟨hy, hyd⟩
        (refine hc_seq ?_; refine hc_lex ?_; refine hx_plain rfl ?_; refine h_move rfl rfl rfl rfl ?_; refine hx_plain rfl ?_)
        refine h_call rfl rfl rfl rfl rfl rfl rfl rfl EC.out (.cons (.tail .head) .nil) (under_spec hy hyd) ?_
        rintro u M rfl
        (refine hx_plain rfl ?_; refine h_assign rfl rfl rfl rfl ?_; refine hx_nil ?_; refine hq_then ?_; refine hc_seq ?_; refine hc_lex ?_; refine hx_plain rfl ?_; refine h_move rfl rfl rfl rfl ?_; refine hx_plain rfl ?_; refine h_move rfl rfl rfl rfl ?_; refine hx_plain rfl ?_)
        refine h_callRd rfl rfl rfl rfl rfl rfl EC.out (fun w' h => sameFlights (h.rdFlO .head) (h.rdFlO (.tail (.tail .head)))) ?_
        (refine hx_plain rfl ?_; refine h_assign rfl rfl rfl rfl ?_; refine hx_nil ?_; refine hq_then ?_; refine hc_ret ?_)
        exact hq_ret1 (.inr rfl) rfl rfl ⟨by simp, rfl⟩ (fun _ h => h.emp)
    ·
      (refine hx_plain rfl ?_; refine h_move rfl rfl rfl rfl ?_; refine hx_plain rfl ?_; refine h_cmp rfl rfl rfl rfl rfl rfl ?_; refine hx_plain rfl ?_; refine h_move rfl rfl rfl rfl ?_; refine hx_gF rfl rfl rfl (by omega) ?_; refine hx_skip rfl rfl rfl rfl rfl rfl ?_; refine hx_skip rfl rfl rfl rfl rfl rfl ?_; refine hx_skip rfl rfl rfl rfl rfl rfl ?_; refine hx_skip rfl rfl rfl rfl rfl rfl ?_; refine hx_plain rfl ?_; refine h_pickF rfl rfl rfl rfl rfl ?_; refine hx_plain rfl ?_; refine h_assign rfl rfl rfl rfl ?_; refine hx_nil ?_; refine hq_then ?_)
      try rw [hdec hu1]
      refine hc_meet (Y := NS) (fun _ => [(10, .pointer (some ⟨p, 0, none⟩)), (12, .slice ua qs.length uc)]) (fun y => [FlO (.slice ua qs.length uc) y.l, NetO p y]) (fun y => y.Ok ∧ ∀ f ∈ y.l, f.data.length ≤ 140737488355200) ?_ ?_
      · (refine hc_seq ?_; refine hc_lex ?_; refine hx_plain rfl ?_; refine h_move rfl rfl rfl rfl ?_; refine hx_plain rfl ?_; refine h_not rfl rfl rfl rfl ?_; refine hx_nil ?_; refine hq_then ?_; refine hc_condT rfl ?_; refine hc_seq ?_; refine hc_lex ?_; refine hx_plain rfl ?_; refine h_move rfl rfl rfl rfl ?_; refine hx_plain rfl ?_; refine h_move rfl rfl rfl rfl ?_; refine hx_plain rfl ?_)
        refine h_call rfl rfl rfl rfl rfl rfl rfl rfl EC.out (.cons (.tail .head) .nil) (take_spec no hs.ok) ?_
        rintro u M (⟨_, rfl, rfl⟩ | ⟨f, _, hf2, _⟩)
        rotate_left
        · rw [hf] at hf2; cases hf2
        (refine hx_plain rfl ?_; refine h_move rfl rfl rfl rfl ?_; refine hx_plain rfl ?_; refine h_extract rfl rfl rfl rfl rfl ?_; refine hx_plain rfl ?_; refine h_extract rfl rfl rfl rfl rfl ?_; refine hx_plain rfl ?_; (refine h_alloc rfl rfl IC.zero rfl rfl rfl (fun _ => ?_)); refine hx_plain rfl ?_; refine h_store rfl rfl rfl rfl rfl rfl IC.size .head rfl rfl (Nat.le_of_ble_eq_true rfl) (List.all_eq_true.1 rfl) ?_; refine hx_plain rfl ?_; refine h_assign rfl rfl rfl rfl ?_; refine hx_nil ?_; refine hq_then ?_; refine hc_seq ?_; refine hc_lex ?_; refine hx_plain rfl ?_; refine h_move rfl rfl rfl rfl ?_; refine hx_plain rfl ?_; refine h_move rfl rfl rfl rfl ?_; refine hx_plain rfl ?_)
        refine h_call rfl rfl rfl rfl rfl rfl rfl rfl EC.out (.cons (.tail .head) .nil) (drop_spec no hs.ok) ?_
        rintro u M ⟨rfl, rfl⟩
        rw [NS.errOf_none hf, NS.del_none hf]
        (refine hx_plain rfl ?_; refine h_assign rfl rfl rfl rfl ?_; refine hx_nil ?_; refine hq_then ?_; refine hc_seq ?_; refine hc_lex ?_; refine hx_plain rfl ?_; refine h_move rfl rfl rfl rfl ?_; refine hx_plain rfl ?_; refine h_move rfl rfl rfl rfl ?_; refine hx_plain rfl ?_)
        refine h_call rfl rfl rfl rfl rfl rfl rfl rfl EC.out (.cons .head .nil) (copy_spec no hs.ok (by rw [hs.giv]; omega) hs.dat) ?_
        rintro u M ⟨rfl, rfl⟩
        rw [NS.errOf_none hf, show s.copied no = 0 by unfold NS.copied; rw [hf], show s.copy no = s by unfold NS.copy; rw [hf]]
        (refine hx_plain rfl ?_; refine h_move rfl rfl rfl rfl ?_; refine hx_plain rfl ?_; refine h_extract rfl rfl rfl rfl rfl ?_; refine hx_plain rfl ?_; refine h_extract rfl rfl rfl rfl rfl ?_; refine hx_plain rfl ?_; refine h_assign rfl rfl rfl rfl ?_; refine hx_plain rfl ?_; refine h_assign rfl rfl rfl rfl ?_; refine hx_nil ?_; refine hq_then ?_; refine hc_seq ?_; refine hc_lex ?_; refine hx_plain rfl ?_; refine h_move rfl rfl rfl rfl ?_; refine hx_plain rfl ?_; refine h_move rfl rfl rfl rfl ?_; refine hx_plain rfl ?_)
        refine h_call rfl rfl rfl rfl rfl rfl rfl rfl EC.out (.cons .head .nil) (flip_spec no 0 1 hs.ok) ?_
        rintro u M ⟨rfl, rfl⟩
        rw [show s.flipE no 0 1 = 201 by unfold NS.flipE; rw [hf], show s.flip no 0 1 = s by unfold NS.flip; rw [hf]]
        (refine hx_plain rfl ?_; refine h_assign rfl rfl rfl rfl ?_; refine hx_nil ?_; refine hq_then ?_; refine hc_seq ?_; refine hc_lex ?_; refine hx_plain rfl ?_; refine h_move rfl rfl rfl rfl ?_; refine hx_plain rfl ?_)
        iterate 4
          refine h_callR rfl rfl rfl rfl rfl rfl EC.out ((num_spec _).reads _) ?_
          (repeat' (first | ((with_reducible refine mHX ?_); (first | refine hx_plain rfl ?_ | refine hx_nil ?_ | refine hx_yes rfl rfl rfl ?_ | refine hx_skip rfl rfl rfl rfl rfl rfl ?_ | refine hx_skipU rfl rfl rfl rfl rfl ?_ | refine hx_gT rfl rfl rfl (by omega) ?_ | refine hx_gF rfl rfl rfl (by omega) ?_ | refine hx_gcaseD rfl rfl rfl (fun hc => ?_) (fun hc => ?_) | refine hx_gcase rfl rfl rfl (fun hc => ?_) (fun hc => ?_))) | ((with_reducible refine mHX1 ?_); (first | refine h_move rfl rfl rfl rfl ?_ | refine h_assign rfl rfl rfl rfl ?_ | refine h_fieldAddr0 rfl rfl FC.out rfl rfl ?_ | refine h_fieldAddr rfl rfl FC.out rfl rfl ?_ | refine h_nilCheck rfl rfl rfl rfl ?_ | (refine kLoad rfl ?_; (first | refine h_load rfl rfl UC.out rfl .head rfl rfl rfl ?_ | refine h_load rfl rfl UC.out rfl (.tail .head) rfl rfl rfl ?_ | refine h_load rfl rfl UC.out rfl (.tail (.tail .head)) rfl rfl rfl ?_ | refine h_load rfl rfl UC.out rfl (.tail (.tail (.tail .head))) rfl rfl rfl ?_ | refine h_load rfl rfl UC.out rfl (.tail (.tail (.tail (.tail .head)))) rfl rfl rfl ?_ | refine h_load rfl rfl UC.out rfl (.tail (.tail (.tail (.tail (.tail .head))))) rfl rfl rfl ?_ | refine h_load2 rfl rfl UC.out rfl IC.size .head rfl rfl rfl rfl ?_ | refine h_load2 rfl rfl UC.out rfl IC.size (.tail .head) rfl rfl rfl rfl ?_ | refine h_load2 rfl rfl UC.out rfl IC.size (.tail (.tail .head)) rfl rfl rfl rfl ?_ | refine h_load2 rfl rfl UC.out rfl IC.size (.tail (.tail (.tail .head))) rfl rfl rfl rfl ?_ | refine h_load2 rfl rfl UC.out rfl IC.size (.tail (.tail (.tail (.tail .head)))) rfl rfl rfl rfl ?_ | refine h_load2 rfl rfl UC.out rfl IC.size (.tail (.tail (.tail (.tail (.tail .head))))) rfl rfl rfl rfl ?_ | refine h_rowLoad rfl .head rfl UC.out rfl (by with_reducible assumption) rfl rfl rfl ?_ | refine h_rowLoad rfl (.tail .head) rfl UC.out rfl (by with_reducible assumption) rfl rfl rfl ?_ | refine h_rowLoad rfl (.tail (.tail .head)) rfl UC.out rfl (by with_reducible assumption) rfl rfl rfl ?_ | refine h_rowLoad rfl (.tail (.tail (.tail .head))) rfl UC.out rfl (by with_reducible assumption) rfl rfl rfl ?_ | refine h_rowLoad rfl (.tail (.tail (.tail (.tail .head)))) rfl UC.out rfl (by with_reducible assumption) rfl rfl rfl ?_ | refine h_rowLoad rfl (.tail (.tail (.tail (.tail (.tail .head))))) rfl UC.out rfl (by with_reducible assumption) rfl rfl rfl ?_ | refine h_rowLoad0 rfl .head rfl UC.out rfl (by with_reducible assumption) rfl rfl rfl ?_ | refine h_rowLoad0 rfl (.tail .head) rfl UC.out rfl (by with_reducible assumption) rfl rfl rfl ?_ | refine h_rowLoad0 rfl (.tail (.tail .head)) rfl UC.out rfl (by with_reducible assumption) rfl rfl rfl ?_ | refine h_rowLoad0 rfl (.tail (.tail (.tail .head))) rfl UC.out rfl (by with_reducible assumption) rfl rfl rfl ?_ | refine h_rowLoad0 rfl (.tail (.tail (.tail (.tail .head)))) rfl UC.out rfl (by with_reducible assumption) rfl rfl rfl ?_ | refine h_rowLoad0 rfl (.tail (.tail (.tail (.tail (.tail .head))))) rfl UC.out rfl (by with_reducible assumption) rfl rfl rfl ?_ | refine h_rowLoadN rfl .head rfl UC.out rfl IC.size (by with_reducible assumption) rfl rfl rfl ?_ | refine h_rowLoadN rfl (.tail .head) rfl UC.out rfl IC.size (by with_reducible assumption) rfl rfl rfl ?_ | refine h_rowLoadN rfl (.tail (.tail .head)) rfl UC.out rfl IC.size (by with_reducible assumption) rfl rfl rfl ?_ | refine h_rowLoadN rfl (.tail (.tail (.tail .head))) rfl UC.out rfl IC.size (by with_reducible assumption) rfl rfl rfl ?_ | refine h_rowLoadN rfl (.tail (.tail (.tail (.tail .head)))) rfl UC.out rfl IC.size (by with_reducible assumption) rfl rfl rfl ?_ | refine h_rowLoadN rfl (.tail (.tail (.tail (.tail (.tail .head))))) rfl UC.out rfl IC.size (by with_reducible assumption) rfl rfl rfl ?_ | refine h_rdLoad rfl r1 rfl UC.out rfl (by with_reducible assumption) rfl rfl rfl ?_ | refine h_rdLoad1 rfl r1 rfl UC.out rfl (by with_reducible assumption) rfl rfl rfl ?_ | refine h_rdLoadN rfl r1 rfl UC.out rfl IC.size (by with_reducible assumption) rfl rfl rfl ?_ | refine h_loadP rfl rfl UC.out rfl IC.size .head rfl rfl rfl rfl ?_ | refine h_loadP rfl rfl UC.out rfl IC.size (.tail .head) rfl rfl rfl rfl ?_ | refine h_loadP rfl rfl UC.out rfl IC.size (.tail (.tail .head)) rfl rfl rfl rfl ?_ | refine h_loadP rfl rfl UC.out rfl IC.size (.tail (.tail (.tail .head))) rfl rfl rfl rfl ?_ | refine h_loadP rfl rfl UC.out rfl IC.size (.tail (.tail (.tail (.tail .head)))) rfl rfl rfl rfl ?_ | refine h_loadP rfl rfl UC.out rfl IC.size (.tail (.tail (.tail (.tail (.tail .head))))) rfl rfl rfl rfl ?_ | refine h_rowLoad1 rfl .head rfl UC.out rfl (by with_reducible assumption) rfl rfl rfl ?_ | refine h_rowLoad1 rfl (.tail .head) rfl UC.out rfl (by with_reducible assumption) rfl rfl rfl ?_ | refine h_rowLoad1 rfl (.tail (.tail .head)) rfl UC.out rfl (by with_reducible assumption) rfl rfl rfl ?_ | refine h_rowLoad1 rfl (.tail (.tail (.tail .head))) rfl UC.out rfl (by with_reducible assumption) rfl rfl rfl ?_ | refine h_rowLoad1 rfl (.tail (.tail (.tail (.tail .head)))) rfl UC.out rfl (by with_reducible assumption) rfl rfl rfl ?_ | refine h_rowLoad1 rfl (.tail (.tail (.tail (.tail (.tail .head))))) rfl UC.out rfl (by with_reducible assumption) rfl rfl rfl ?_)) | (refine kBin rfl ?_; (first | refine h_shrU rfl rfl rfl (by omega) rfl rfl ?_ | refine h_shlU rfl rfl rfl (by omega) rfl rfl ?_ | refine h_bits rfl rfl rfl rfl rfl rfl ?_ | refine h_cmp rfl rfl rfl rfl rfl rfl ?_ | refine h_cmpB rfl rfl rfl UC.out rfl rfl rfl ?_ | refine h_eqNil rfl rfl rfl UC.out rfl rfl ?_ | refine h_neqNil rfl rfl rfl UC.out rfl rfl ?_ | refine h_arithI rfl rfl rfl rfl (by omega) rfl rfl ?_ | refine h_quoI rfl rfl rfl (by omega) rfl rfl ?_ | refine h_remI rfl rfl rfl (by omega) rfl rfl ?_)) | (refine kStore rfl ?_; (first | refine h_store rfl rfl rfl rfl rfl rfl IC.size .head rfl rfl (Nat.le_of_ble_eq_true rfl) (List.all_eq_true.1 rfl) ?_ | refine h_store rfl rfl rfl rfl rfl rfl IC.size (.tail .head) rfl rfl (Nat.le_of_ble_eq_true rfl) (List.all_eq_true.1 rfl) ?_ | refine h_store rfl rfl rfl rfl rfl rfl IC.size (.tail (.tail .head)) rfl rfl (Nat.le_of_ble_eq_true rfl) (List.all_eq_true.1 rfl) ?_ | refine h_store rfl rfl rfl rfl rfl rfl IC.size (.tail (.tail (.tail .head))) rfl rfl (Nat.le_of_ble_eq_true rfl) (List.all_eq_true.1 rfl) ?_ | refine h_store rfl rfl rfl rfl rfl rfl IC.size (.tail (.tail (.tail (.tail .head)))) rfl rfl (Nat.le_of_ble_eq_true rfl) (List.all_eq_true.1 rfl) ?_ | refine h_store rfl rfl rfl rfl rfl rfl IC.size (.tail (.tail (.tail (.tail (.tail .head))))) rfl rfl (Nat.le_of_ble_eq_true rfl) (List.all_eq_true.1 rfl) ?_)) | refine h_pickT rfl rfl rfl rfl rfl ?_ | refine h_pickF rfl rfl rfl rfl rfl ?_ | refine h_not rfl rfl rfl rfl ?_ | refine h_extract rfl rfl rfl rfl rfl ?_ | refine h_len_slice rfl rfl rfl UC.out rfl rfl rfl ?_ | refine h_nilCheckF rfl rfl rfl rfl ?_ | refine h_field1 rfl rfl FC.out UC.out rfl rfl rfl rfl ?_ | refine h_fieldN rfl rfl FC.out UC.out rfl IC.size rfl rfl ?_ | refine h_rowAddr rfl rfl rfl UC.out IC.size (by omega) (by omega) rfl rfl ?_ | refine h_indexAddr rfl rfl rfl UC.out IC.size (by omega) (by omega) rfl rfl ?_ | refine h_build rfl inferInstance rfl rfl rfl rfl ?_ | refine h_sliceTo rfl rfl rfl UC.out IC.size (by omega) rfl rfl ?_ | refine h_convInt rfl rfl UC.out UC.out rfl rfl ?_ | (refine h_box rfl rfl rfl rfl rfl rfl (fun _ => ?_)) | (refine h_alloc rfl rfl IC.zero rfl rfl rfl (fun _ => ?_)))) | ((with_reducible refine mHC ?_); (first | refine hc_seq ?_ | refine hc_lex ?_ | refine hc_condT rfl ?_ | refine hc_condF rfl ?_ | refine hc_block ?_ | refine hc_ret ?_ | refine hc_exit ?_ | refine hc_skip ?_ | refine hc_condDT rfl (by omega) ?_ | refine hc_condDF rfl (by omega) ?_ | refine hc_condD rfl (fun hc => ?_) (fun hc => ?_) | refine hc_cond rfl (fun hc => ?_) (fun hc => ?_))) | ((with_reducible refine mHQ ?_); (first | with_reducible refine hq_then ?_ | with_reducible refine hq_ret_then ?_ | with_reducible refine hq_ret_block ?_ | with_reducible refine hq_exit_then ?_ | with_reducible refine hq_exit_block ?_ | with_reducible refine hq_norm_block ?_ | with_reducible refine hq_cut_ret ?_ | (refine hq_exit_other ?_ ?_; exact rfl) | (refine hq_cut_exit ?_ ?_; exact rfl)))))
        refine hq_met s ⟨hs.ok, hs.dat⟩ (.cons rfl (.cons rfl .nil)) (fun w' h => ?_)
        exact h.sub (.cons (.tail (.tail .head)) (.cons .head .nil))
      · rintro y ⟨hy, hyd⟩
        (refine hc_seq ?_; refine hc_lex ?_; refine hx_plain rfl ?_; refine h_move rfl rfl rfl rfl ?_; refine hx_plain rfl ?_)
        refine h_call rfl rfl rfl rfl rfl rfl rfl rfl EC.out (.cons (.tail .head) .nil) (under_spec hy hyd) ?_
        rintro u M rfl
        (refine hx_plain rfl ?_; refine h_assign rfl rfl rfl rfl ?_; refine hx_nil ?_; refine hq_then ?_; refine hc_seq ?_; refine hc_lex ?_; refine hx_plain rfl ?_; refine h_move rfl rfl rfl rfl ?_; refine hx_plain rfl ?_; refine h_move rfl rfl rfl rfl ?_; refine hx_plain rfl ?_)
        refine h_callRd rfl rfl rfl rfl rfl rfl EC.out (fun w' h => sameFlights (h.rdFlO .head) (h.rdFlO (.tail (.tail .head)))) ?_
        (refine hx_plain rfl ?_; refine h_assign rfl rfl rfl rfl ?_; refine hx_nil ?_; refine hq_then ?_; refine hc_ret ?_)
        exact hq_ret1 (.inr rfl) rfl rfl ⟨by simp, rfl⟩ (fun _ h => h.emp)
  case pos =>
    obtain ⟨k, hk⟩ : ∃ k : Nat, (no - 1).toNat = k := ⟨_, rfl⟩
    have hkn : k < qs.length := by omega
    obtain ⟨⟨f, sa, sn, sc⟩, hqk⟩ : ∃ q, qs[k]? = some q := ⟨_, List.getElem?_eq_getElem hkn⟩
    have hsk : s.l[k]? = some f := by rw [← hq, List.getElem?_map, hqk]; rfl
    have hfno : f.no = no := by
      have := hs.nos k f hsk
      omega
    have hf : s.find no = some f := by rw [← hfno]; exact NS.find_at hs.ok hsk
    refine hc_conv (C' := St w nowhere [rfL (.slice ua qs.length uc) qs, QF.row ⟨f, sa, sn, sc⟩, netR (qs.eraseIdx k), NetO p s]) (fun _ h => (rows_erase hqk (h.perm (List.Perm.swap _ _ _))).pulls (.cons (.tail (.tail .head)) (.cons .head (.cons .head (.cons .head .nil))))) ?_
    refine hc_know (fun _ h => St.rowV_shapeS h (.tail .head)) ?_
    rintro ⟨a', c', e⟩
    injection e with _ e2 _
    dsimp only at e2
    subst e2
    refine hc_rowV .head ?_ ?_
    · intro _ e
      rw [e] at hkn
      exact absurd hkn (Nat.not_lt_zero _)
    rintro g cap e
    injection e with e1 e2 e3
    subst e1 e3
    have e1 : qs[(no - 1).toNat]? = some ⟨f, sa, f.data.length, sc⟩ := by rw [hk]; exact hqk
    have shut : ∀ {w' : World}, St w nowhere [NetO p s, Row qfE 52 g uc qs, QF.row ⟨f, sa, f.data.length, sc⟩, netR (qs.eraseIdx k)] w' → St w nowhere [FlO (.slice (some ⟨g, 0, none⟩) qs.length uc) s.l, NetO p s] w' := fun h => by
      have h1 := rows_back hqk (h.pulls (.cons (.tail (.tail .head)) (.cons (.tail (.tail .head)) (.cons (.tail .head) (.cons .head .nil)))))
      exact FlO_shut hq ((h1.perm (List.Perm.swap _ _ _)).rowV_mk)
    have hdec : decide (no ≤ (qs.length : Int)) = true := decide_eq_true (by omega)
    have hfe : s.flipE no at_ v = flipE f.data at_ v := by unfold NS.flipE; rw [hf]
    have hfs : s.flip no at_ v = if flipE f.data at_ v = 0 then s.upd no (flipD f.data at_ v) else s := by unfold NS.flip; rw [hf]
    refine hc_seq ?_
    refine hc_lex ?_
    (refine hx_plain rfl ?_; refine h_move rfl rfl rfl rfl ?_; refine hx_plain rfl ?_; refine h_cmp rfl rfl rfl rfl rfl rfl ?_; refine hx_plain rfl ?_; refine h_move rfl rfl rfl rfl ?_; refine hx_gT rfl rfl rfl (by omega) ?_; refine hx_yes rfl rfl rfl ?_; refine h_move rfl rfl rfl rfl ?_; refine hx_yes rfl rfl rfl ?_; refine h_move rfl rfl rfl rfl ?_; refine hx_yes rfl rfl rfl ?_; refine h_len_slice rfl rfl rfl UC.out rfl rfl rfl ?_; refine hx_yes rfl rfl rfl ?_; refine h_cmp rfl rfl rfl rfl rfl rfl ?_; refine hx_plain rfl ?_; refine h_pickT rfl rfl rfl rfl rfl ?_; refine hx_plain rfl ?_; refine h_assign rfl rfl rfl rfl ?_; refine hx_nil ?_; refine hq_then ?_)
    rw [hdec]
    refine hc_meet (Y := NS) (fun _ => [(10, .pointer (some ⟨p, 0, none⟩)), (12, .slice (some ⟨g, 0, none⟩) qs.length uc)]) (fun y => [FlO (.slice (some ⟨g, 0, none⟩) qs.length uc) y.l, NetO p y]) (fun y => y.Ok ∧ ∀ f ∈ y.l, f.data.length ≤ 140737488355200) ?_ ?_
    · by_cases hat : at_ < 0 ∨ (f.data.length : Int) ≤ at_
      · have hd1 : 0 ≤ at_ → decide (at_ < (f.data.length : Int)) = false := fun h => decide_eq_false (by omega)
        by_cases hat0 : 0 ≤ at_
        ·
          (refine hc_seq ?_; refine hc_lex ?_; refine hx_plain rfl ?_; refine h_move rfl rfl rfl rfl ?_; refine hx_plain rfl ?_; refine h_not rfl rfl rfl rfl ?_; refine hx_nil ?_; refine hq_then ?_; refine hc_condF rfl ?_; refine hc_seq ?_; refine hc_lex ?_; refine hx_plain rfl ?_; refine h_move rfl rfl rfl rfl ?_; refine hx_plain rfl ?_; refine h_cmp rfl rfl rfl rfl rfl rfl ?_; refine hx_plain rfl ?_; refine h_move rfl rfl rfl rfl ?_; refine hx_gT rfl rfl rfl (by omega) ?_; refine hx_yes rfl rfl rfl ?_; refine h_move rfl rfl rfl rfl ?_; refine hx_yes rfl rfl rfl ?_; refine h_move rfl rfl rfl rfl ?_; refine hx_yes rfl rfl rfl ?_; refine h_move rfl rfl rfl rfl ?_; refine hx_yes rfl rfl rfl ?_; refine h_arithI rfl rfl rfl rfl (by omega) rfl rfl ?_; refine hx_yes rfl rfl rfl ?_; refine h_rowAddr rfl rfl rfl UC.out IC.size (by omega) (by omega) rfl rfl ?_; refine hx_yes rfl rfl rfl ?_; refine h_fieldAddr rfl rfl FC.out rfl rfl ?_; refine hx_yes rfl rfl rfl ?_; refine h_rowLoad rfl .head rfl UC.out rfl (by with_reducible assumption) rfl rfl rfl ?_; refine hx_yes rfl rfl rfl ?_; refine h_len_slice rfl rfl rfl UC.out rfl rfl rfl ?_; refine hx_yes rfl rfl rfl ?_; refine h_cmp rfl rfl rfl rfl rfl rfl ?_; refine hx_plain rfl ?_; refine h_pickT rfl rfl rfl rfl rfl ?_; refine hx_plain rfl ?_; refine h_assign rfl rfl rfl rfl ?_; refine hx_nil ?_; refine hq_then ?_; refine hc_seq ?_; refine hc_lex ?_; refine hx_plain rfl ?_; refine h_move rfl rfl rfl rfl ?_; refine hx_plain rfl ?_; refine h_move rfl rfl rfl rfl ?_; refine hx_plain rfl ?_; refine h_move rfl rfl rfl rfl ?_; refine hx_plain rfl ?_; refine h_move rfl rfl rfl rfl ?_; refine hx_plain rfl ?_)
          try rw [hd1 hat0]
          refine h_call rfl rfl rfl rfl rfl rfl rfl rfl EC.out (.cons (.tail (.tail (.tail .head))) .nil) (flip_spec no at_ v hs.ok) ?_
          rintro u M ⟨rfl, rfl⟩
          rw [hfe, hfs, flipE_at hat, if_neg (by decide)]
          (refine hx_plain rfl ?_; refine h_assign rfl rfl rfl rfl ?_; refine hx_nil ?_; refine hq_then ?_; refine hc_block ?_; refine hc_seq ?_; refine hc_lex ?_; refine hx_plain rfl ?_; refine h_move rfl rfl rfl rfl ?_; refine hx_plain rfl ?_; refine h_not rfl rfl rfl rfl ?_; refine hx_plain rfl ?_; refine h_assign rfl rfl rfl rfl ?_; refine hx_nil ?_; refine hq_then ?_; refine hc_condT rfl ?_; refine hc_seq ?_; refine hc_lex ?_; refine hx_plain rfl ?_; refine h_move rfl rfl rfl rfl ?_; refine hx_plain rfl ?_)
          refine h_callR rfl rfl rfl rfl rfl rfl EC.out ((num_spec _).reads _) ?_
          (refine hx_plain rfl ?_; refine h_cmp rfl rfl rfl rfl rfl rfl ?_; refine hx_nil ?_; refine hq_then ?_; refine hc_condF rfl ?_; refine hc_skip ?_; refine hq_norm_block ?_)
          exact hq_met s ⟨hs.ok, hs.dat⟩ (.cons rfl (.cons rfl .nil)) (fun w' h => shut h)
        ·
          (refine hc_seq ?_; refine hc_lex ?_; refine hx_plain rfl ?_; refine h_move rfl rfl rfl rfl ?_; refine hx_plain rfl ?_; refine h_not rfl rfl rfl rfl ?_; refine hx_nil ?_; refine hq_then ?_; refine hc_condF rfl ?_; refine hc_seq ?_; refine hc_lex ?_; refine hx_plain rfl ?_; refine h_move rfl rfl rfl rfl ?_; refine hx_plain rfl ?_; refine h_cmp rfl rfl rfl rfl rfl rfl ?_; refine hx_plain rfl ?_; refine h_move rfl rfl rfl rfl ?_; refine hx_gF rfl rfl rfl (by omega) ?_; refine hx_skip rfl rfl rfl rfl rfl rfl ?_; refine hx_skip rfl rfl rfl rfl rfl rfl ?_; refine hx_skip rfl rfl rfl rfl rfl rfl ?_; refine hx_skip rfl rfl rfl rfl rfl rfl ?_; refine hx_skip rfl rfl rfl rfl rfl rfl ?_; refine hx_skip rfl rfl rfl rfl rfl rfl ?_; refine hx_skip rfl rfl rfl rfl rfl rfl ?_; refine hx_skip rfl rfl rfl rfl rfl rfl ?_; refine hx_skip rfl rfl rfl rfl rfl rfl ?_; refine hx_plain rfl ?_; refine h_pickF rfl rfl rfl rfl rfl ?_; refine hx_plain rfl ?_; refine h_assign rfl rfl rfl rfl ?_; refine hx_nil ?_; refine hq_then ?_; refine hc_seq ?_; refine hc_lex ?_; refine hx_plain rfl ?_; refine h_move rfl rfl rfl rfl ?_; refine hx_plain rfl ?_; refine h_move rfl rfl rfl rfl ?_; refine hx_plain rfl ?_; refine h_move rfl rfl rfl rfl ?_; refine hx_plain rfl ?_; refine h_move rfl rfl rfl rfl ?_; refine hx_plain rfl ?_)
          try rw [hd1 hat0]
          refine h_call rfl rfl rfl rfl rfl rfl rfl rfl EC.out (.cons (.tail (.tail (.tail .head))) .nil) (flip_spec no at_ v hs.ok) ?_
          rintro u M ⟨rfl, rfl⟩
          rw [hfe, hfs, flipE_at hat, if_neg (by decide)]
          (refine hx_plain rfl ?_; refine h_assign rfl rfl rfl rfl ?_; refine hx_nil ?_; refine hq_then ?_; refine hc_block ?_; refine hc_seq ?_; refine hc_lex ?_; refine hx_plain rfl ?_; refine h_move rfl rfl rfl rfl ?_; refine hx_plain rfl ?_; refine h_not rfl rfl rfl rfl ?_; refine hx_plain rfl ?_; refine h_assign rfl rfl rfl rfl ?_; refine hx_nil ?_; refine hq_then ?_; refine hc_condT rfl ?_; refine hc_seq ?_; refine hc_lex ?_; refine hx_plain rfl ?_; refine h_move rfl rfl rfl rfl ?_; refine hx_plain rfl ?_)
          refine h_callR rfl rfl rfl rfl rfl rfl EC.out ((num_spec _).reads _) ?_
          (refine hx_plain rfl ?_; refine h_cmp rfl rfl rfl rfl rfl rfl ?_; refine hx_nil ?_; refine hq_then ?_; refine hc_condF rfl ?_; refine hc_skip ?_; refine hq_norm_block ?_)
          exact hq_met s ⟨hs.ok, hs.dat⟩ (.cons rfl (.cons rfl .nil)) (fun w' h => shut h)
      have hd1 : decide (at_ < (f.data.length : Int)) = true := decide_eq_true (by omega)
      by_cases hv : v < 1 ∨ 255 < v
      · by_cases hv0 : v < 1
        · have hv1 : decide (v < 1) = true := decide_eq_true hv0
          (refine hc_seq ?_; refine hc_lex ?_; refine hx_plain rfl ?_; refine h_move rfl rfl rfl rfl ?_; refine hx_plain rfl ?_; refine h_not rfl rfl rfl rfl ?_; refine hx_nil ?_; refine hq_then ?_; refine hc_condF rfl ?_; refine hc_seq ?_; refine hc_lex ?_; refine hx_plain rfl ?_; refine h_move rfl rfl rfl rfl ?_; refine hx_plain rfl ?_; refine h_cmp rfl rfl rfl rfl rfl rfl ?_; refine hx_plain rfl ?_; refine h_move rfl rfl rfl rfl ?_; refine hx_gT rfl rfl rfl (by omega) ?_; refine hx_yes rfl rfl rfl ?_; refine h_move rfl rfl rfl rfl ?_; refine hx_yes rfl rfl rfl ?_; refine h_move rfl rfl rfl rfl ?_; refine hx_yes rfl rfl rfl ?_; refine h_move rfl rfl rfl rfl ?_; refine hx_yes rfl rfl rfl ?_; refine h_arithI rfl rfl rfl rfl (by omega) rfl rfl ?_; refine hx_yes rfl rfl rfl ?_; refine h_rowAddr rfl rfl rfl UC.out IC.size (by omega) (by omega) rfl rfl ?_; refine hx_yes rfl rfl rfl ?_; refine h_fieldAddr rfl rfl FC.out rfl rfl ?_; refine hx_yes rfl rfl rfl ?_; refine h_rowLoad rfl .head rfl UC.out rfl (by with_reducible assumption) rfl rfl rfl ?_; refine hx_yes rfl rfl rfl ?_; refine h_len_slice rfl rfl rfl UC.out rfl rfl rfl ?_; refine hx_yes rfl rfl rfl ?_; refine h_cmp rfl rfl rfl rfl rfl rfl ?_; refine hx_plain rfl ?_; refine h_pickT rfl rfl rfl rfl rfl ?_; refine hx_plain rfl ?_; refine h_assign rfl rfl rfl rfl ?_; refine hx_nil ?_; refine hq_then ?_; refine hc_seq ?_; refine hc_lex ?_; refine hx_plain rfl ?_; refine h_move rfl rfl rfl rfl ?_; refine hx_plain rfl ?_; refine h_move rfl rfl rfl rfl ?_; refine hx_plain rfl ?_; refine h_move rfl rfl rfl rfl ?_; refine hx_plain rfl ?_; refine h_move rfl rfl rfl rfl ?_; refine hx_plain rfl ?_)
          rw [hd1]
          refine h_call rfl rfl rfl rfl rfl rfl rfl rfl EC.out (.cons (.tail (.tail (.tail .head))) .nil) (flip_spec no at_ v hs.ok) ?_
          rintro u M ⟨rfl, rfl⟩
          rw [hfe, hfs, flipE_v hat hv, if_neg (by decide)]
          (refine hx_plain rfl ?_; refine h_assign rfl rfl rfl rfl ?_; refine hx_nil ?_; refine hq_then ?_; refine hc_block ?_; refine hc_seq ?_; refine hc_lex ?_; refine hx_plain rfl ?_; refine h_move rfl rfl rfl rfl ?_; refine hx_plain rfl ?_; refine h_not rfl rfl rfl rfl ?_; refine hx_plain rfl ?_; refine h_assign rfl rfl rfl rfl ?_; refine hx_nil ?_; refine hq_then ?_; refine hc_condF rfl ?_; refine hc_seq ?_; refine hc_lex ?_; refine hx_plain rfl ?_; refine h_move rfl rfl rfl rfl ?_; refine hx_plain rfl ?_; refine h_cmp rfl rfl rfl rfl rfl rfl ?_; refine hx_plain rfl ?_; refine h_move rfl rfl rfl rfl ?_; refine hx_gT rfl rfl rfl (by omega) ?_; refine hx_skip rfl rfl rfl rfl rfl rfl ?_; refine hx_skip rfl rfl rfl rfl rfl rfl ?_; refine hx_plain rfl ?_; refine h_pickT rfl rfl rfl rfl rfl ?_; refine hx_plain rfl ?_; refine h_assign rfl rfl rfl rfl ?_; refine hx_nil ?_; refine hq_then ?_; refine hc_condT rfl ?_; refine hc_seq ?_; refine hc_lex ?_; refine hx_plain rfl ?_; refine h_move rfl rfl rfl rfl ?_; refine hx_plain rfl ?_)
          refine h_callR rfl rfl rfl rfl rfl rfl EC.out ((num_spec _).reads _) ?_
          (refine hx_plain rfl ?_; refine h_cmp rfl rfl rfl rfl rfl rfl ?_; refine hx_nil ?_; refine hq_then ?_; refine hc_condF rfl ?_; refine hc_skip ?_; refine hq_norm_block ?_)
          exact hq_met s ⟨hs.ok, hs.dat⟩ (.cons rfl (.cons rfl .nil)) (fun w' h => shut h)
        · have hv1 : v > 255 := by omega
          (refine hc_seq ?_; refine hc_lex ?_; refine hx_plain rfl ?_; refine h_move rfl rfl rfl rfl ?_; refine hx_plain rfl ?_; refine h_not rfl rfl rfl rfl ?_; refine hx_nil ?_; refine hq_then ?_; refine hc_condF rfl ?_; refine hc_seq ?_; refine hc_lex ?_; refine hx_plain rfl ?_; refine h_move rfl rfl rfl rfl ?_; refine hx_plain rfl ?_; refine h_cmp rfl rfl rfl rfl rfl rfl ?_; refine hx_plain rfl ?_; refine h_move rfl rfl rfl rfl ?_; refine hx_gT rfl rfl rfl (by omega) ?_; refine hx_yes rfl rfl rfl ?_; refine h_move rfl rfl rfl rfl ?_; refine hx_yes rfl rfl rfl ?_; refine h_move rfl rfl rfl rfl ?_; refine hx_yes rfl rfl rfl ?_; refine h_move rfl rfl rfl rfl ?_; refine hx_yes rfl rfl rfl ?_; refine h_arithI rfl rfl rfl rfl (by omega) rfl rfl ?_; refine hx_yes rfl rfl rfl ?_; refine h_rowAddr rfl rfl rfl UC.out IC.size (by omega) (by omega) rfl rfl ?_; refine hx_yes rfl rfl rfl ?_; refine h_fieldAddr rfl rfl FC.out rfl rfl ?_; refine hx_yes rfl rfl rfl ?_; refine h_rowLoad rfl .head rfl UC.out rfl (by with_reducible assumption) rfl rfl rfl ?_; refine hx_yes rfl rfl rfl ?_; refine h_len_slice rfl rfl rfl UC.out rfl rfl rfl ?_; refine hx_yes rfl rfl rfl ?_; refine h_cmp rfl rfl rfl rfl rfl rfl ?_; refine hx_plain rfl ?_; refine h_pickT rfl rfl rfl rfl rfl ?_; refine hx_plain rfl ?_; refine h_assign rfl rfl rfl rfl ?_; refine hx_nil ?_; refine hq_then ?_; refine hc_seq ?_; refine hc_lex ?_; refine hx_plain rfl ?_; refine h_move rfl rfl rfl rfl ?_; refine hx_plain rfl ?_; refine h_move rfl rfl rfl rfl ?_; refine hx_plain rfl ?_; refine h_move rfl rfl rfl rfl ?_; refine hx_plain rfl ?_; refine h_move rfl rfl rfl rfl ?_; refine hx_plain rfl ?_)
          rw [hd1]
          refine h_call rfl rfl rfl rfl rfl rfl rfl rfl EC.out (.cons (.tail (.tail (.tail .head))) .nil) (flip_spec no at_ v hs.ok) ?_
          rintro u M ⟨rfl, rfl⟩
          rw [hfe, hfs, flipE_v hat hv, if_neg (by decide)]
          (refine hx_plain rfl ?_; refine h_assign rfl rfl rfl rfl ?_; refine hx_nil ?_; refine hq_then ?_; refine hc_block ?_; refine hc_seq ?_; refine hc_lex ?_; refine hx_plain rfl ?_; refine h_move rfl rfl rfl rfl ?_; refine hx_plain rfl ?_; refine h_not rfl rfl rfl rfl ?_; refine hx_plain rfl ?_; refine h_assign rfl rfl rfl rfl ?_; refine hx_nil ?_; refine hq_then ?_; refine hc_condF rfl ?_; refine hc_seq ?_; refine hc_lex ?_; refine hx_plain rfl ?_; refine h_move rfl rfl rfl rfl ?_; refine hx_plain rfl ?_; refine h_cmp rfl rfl rfl rfl rfl rfl ?_; refine hx_plain rfl ?_; refine h_move rfl rfl rfl rfl ?_; refine hx_gF rfl rfl rfl (by omega) ?_; refine hx_yes rfl rfl rfl ?_; refine h_move rfl rfl rfl rfl ?_; refine hx_yes rfl rfl rfl ?_; refine h_cmp rfl rfl rfl rfl rfl rfl ?_; refine hx_plain rfl ?_; refine h_pickF rfl rfl rfl rfl rfl ?_; refine hx_plain rfl ?_; refine h_assign rfl rfl rfl rfl ?_; refine hx_nil ?_; refine hq_then ?_; refine hc_condDT rfl (by omega) ?_; refine hc_seq ?_; refine hc_lex ?_; refine hx_plain rfl ?_; refine h_move rfl rfl rfl rfl ?_; refine hx_plain rfl ?_)
          refine h_callR rfl rfl rfl rfl rfl rfl EC.out ((num_spec _).reads _) ?_
          (refine hx_plain rfl ?_; refine h_cmp rfl rfl rfl rfl rfl rfl ?_; refine hx_nil ?_; refine hq_then ?_; refine hc_condF rfl ?_; refine hc_skip ?_; refine hq_norm_block ?_)
          exact hq_met s ⟨hs.ok, hs.dat⟩ (.cons rfl (.cons rfl .nil)) (fun w' h => shut h)
      refine hc_rowV (.tail .head) ?_ ?_
      · intro _ e
        dsimp only at e
        rw [e] at hat
        exact absurd (by rw [List.length_nil]; omega) hat
      rintro gd capd e
      injection e with e2 e3 e4
      dsimp only at e2 e3 e4
      subst e2 e4
      obtain ⟨x0, hx0⟩ : ∃ x, f.data[at_.toNat]? = some x := ⟨_, List.getElem?_eq_getElem (by omega)⟩
      (refine hc_seq ?_; refine hc_lex ?_; refine hx_plain rfl ?_; refine h_move rfl rfl rfl rfl ?_; refine hx_plain rfl ?_; refine h_not rfl rfl rfl rfl ?_; refine hx_nil ?_; refine hq_then ?_; refine hc_condF rfl ?_; refine hc_seq ?_; refine hc_lex ?_; refine hx_plain rfl ?_; refine h_move rfl rfl rfl rfl ?_; refine hx_plain rfl ?_; refine h_cmp rfl rfl rfl rfl rfl rfl ?_; refine hx_plain rfl ?_; refine h_move rfl rfl rfl rfl ?_; refine hx_gT rfl rfl rfl (by omega) ?_; refine hx_yes rfl rfl rfl ?_; refine h_move rfl rfl rfl rfl ?_; refine hx_yes rfl rfl rfl ?_; refine h_move rfl rfl rfl rfl ?_; refine hx_yes rfl rfl rfl ?_; refine h_move rfl rfl rfl rfl ?_; refine hx_yes rfl rfl rfl ?_; refine h_arithI rfl rfl rfl rfl (by omega) rfl rfl ?_; refine hx_yes rfl rfl rfl ?_; refine h_rowAddr rfl rfl rfl UC.out IC.size (by omega) (by omega) rfl rfl ?_; refine hx_yes rfl rfl rfl ?_; refine h_fieldAddr rfl rfl FC.out rfl rfl ?_; refine hx_yes rfl rfl rfl ?_; refine h_rowLoad rfl (.tail .head) rfl UC.out rfl (by with_reducible assumption) rfl rfl rfl ?_; refine hx_yes rfl rfl rfl ?_; refine h_len_slice rfl rfl rfl UC.out rfl rfl rfl ?_; refine hx_yes rfl rfl rfl ?_; refine h_cmp rfl rfl rfl rfl rfl rfl ?_; refine hx_plain rfl ?_; refine h_pickT rfl rfl rfl rfl rfl ?_; refine hx_plain rfl ?_; refine h_assign rfl rfl rfl rfl ?_; refine hx_nil ?_; refine hq_then ?_; refine hc_seq ?_; refine hc_lex ?_; refine hx_plain rfl ?_; refine h_move rfl rfl rfl rfl ?_; refine hx_plain rfl ?_; refine h_move rfl rfl rfl rfl ?_; refine hx_plain rfl ?_; refine h_move rfl rfl rfl rfl ?_; refine hx_plain rfl ?_; refine h_move rfl rfl rfl rfl ?_; refine hx_plain rfl ?_)
      rw [hd1]
      refine h_call rfl rfl rfl rfl rfl rfl rfl rfl EC.out (.cons (.tail (.tail (.tail .head))) .nil) (flip_spec no at_ v hs.ok) ?_
      rintro u M ⟨rfl, rfl⟩
      rw [hfe, hfs, flipE_ok hat hv, if_pos rfl]
      (refine hx_plain rfl ?_; refine h_assign rfl rfl rfl rfl ?_; refine hx_nil ?_; refine hq_then ?_; refine hc_block ?_; refine hc_seq ?_; refine hc_lex ?_; refine hx_plain rfl ?_; refine h_move rfl rfl rfl rfl ?_; refine hx_plain rfl ?_; refine h_not rfl rfl rfl rfl ?_; refine hx_plain rfl ?_; refine h_assign rfl rfl rfl rfl ?_; refine hx_nil ?_; refine hq_then ?_; refine hc_condF rfl ?_; refine hc_seq ?_; refine hc_lex ?_; refine hx_plain rfl ?_; refine h_move rfl rfl rfl rfl ?_; refine hx_plain rfl ?_; refine h_cmp rfl rfl rfl rfl rfl rfl ?_; refine hx_plain rfl ?_; refine h_move rfl rfl rfl rfl ?_; refine hx_gF rfl rfl rfl (by omega) ?_; refine hx_yes rfl rfl rfl ?_; refine h_move rfl rfl rfl rfl ?_; refine hx_yes rfl rfl rfl ?_; refine h_cmp rfl rfl rfl rfl rfl rfl ?_; refine hx_plain rfl ?_; refine h_pickF rfl rfl rfl rfl rfl ?_; refine hx_plain rfl ?_; refine h_assign rfl rfl rfl rfl ?_; refine hx_nil ?_; refine hq_then ?_; refine hc_condDF rfl (by omega) ?_; refine hc_seq ?_)
      refine hc_drawV (fun i => Nat.beq i 20) [0, 1, 2, 3, 4, 5, 6, 7, 8, 9, 10, 11, 12, 13, 14, 15, 16, 17, 18, 19, 20] (fun _ => false) (by kernel_rfl) (by kernel_rfl) rfl ?_
      (refine hx_plain rfl ?_; refine h_move rfl rfl rfl rfl ?_; refine hx_plain rfl ?_; refine h_move rfl rfl rfl rfl ?_; refine hx_plain rfl ?_; refine h_arithI rfl rfl rfl rfl (by omega) rfl rfl ?_; refine hx_plain rfl ?_; refine h_rowAddr rfl rfl rfl UC.out IC.size (by omega) (by omega) rfl rfl ?_; refine hx_plain rfl ?_; refine h_fieldAddr rfl rfl FC.out rfl rfl ?_; refine hx_plain rfl ?_; refine h_rowLoad rfl (.tail (.tail .head)) rfl UC.out rfl (by with_reducible assumption) rfl rfl rfl ?_; refine hx_plain rfl ?_; refine h_move rfl rfl rfl rfl ?_; refine hx_plain rfl ?_; refine h_move rfl rfl rfl rfl ?_; refine hx_plain rfl ?_; refine h_move rfl rfl rfl rfl ?_; refine hx_plain rfl ?_; refine h_arithI rfl rfl rfl rfl (by omega) rfl rfl ?_; refine hx_plain rfl ?_; refine h_rowAddr rfl rfl rfl UC.out IC.size (by omega) (by omega) rfl rfl ?_; refine hx_plain rfl ?_; refine h_fieldAddr rfl rfl FC.out rfl rfl ?_; refine hx_plain rfl ?_; refine h_rowLoad rfl (.tail (.tail .head)) rfl UC.out rfl (by with_reducible assumption) rfl rfl rfl ?_; refine hx_plain rfl ?_; refine h_move rfl rfl rfl rfl ?_; refine hx_plain rfl ?_)
      dsimp only [SlV.v]
      (refine h_rowAddr rfl rfl rfl UC.out IC.size (by omega) (by omega) rfl rfl ?_; refine hx_plain rfl ?_; refine h_rowLoad1 rfl (.tail .head) rfl UC.out rfl (by with_reducible assumption) rfl rfl rfl ?_; refine hx_plain rfl ?_; refine h_move rfl rfl rfl rfl ?_; refine hx_plain rfl ?_; refine h_convInt rfl rfl UC.out UC.out rfl rfl ?_; refine hx_plain rfl ?_; refine h_bits rfl rfl rfl rfl rfl rfl ?_; refine hx_plain rfl ?_; refine h_rowAddr rfl rfl rfl UC.out IC.size (by omega) (by omega) rfl rfl ?_; refine hx_plain rfl ?_)
      refine h_rowStoreN (E := byteE) (i := at_.toNat) (z := xorV x0 v) rfl rfl rfl (.tail .head) rfl rfl rfl IC.size hx0 rfl rfl ?_
      (refine hx_nil ?_; refine hq_then ?_; refine hc_seq ?_; refine hc_lex ?_; refine hx_plain rfl ?_; refine h_move rfl rfl rfl rfl ?_; refine hx_plain rfl ?_)
      refine h_callR rfl rfl rfl rfl rfl rfl EC.out ((num_spec _).reads _) ?_
      (refine hx_plain rfl ?_; refine h_cmp rfl rfl rfl rfl rfl rfl ?_; refine hx_nil ?_; refine hq_then ?_; refine hc_condF rfl ?_; refine hc_skip ?_; refine hq_norm_block ?_)
      refine hq_met (s.upd no (flipD f.data at_ v)) ⟨NS.upd_ok hs.ok _ _, ?_⟩ (.cons rfl (.cons rfl .nil)) (fun w' h => ?_)
      · intro f2 hf2
        obtain ⟨f3, hf3, rfl⟩ := List.mem_map.1 (show f2 ∈ s.l.map _ from hf2)
        split
        · show (flipD f.data at_ v).length ≤ _
          unfold flipD
          rw [List.length_set]
          exact hs.dat f (List.mem_iff_getElem?.2 ⟨k, hsk⟩)
        · exact hs.dat f3 hf3
      · have h1 := (show St w nowhere (Row byteE 5 gd sc (f.data.set at_.toNat (xorV x0 v)) :: _) w' from h).rowV_mk
        rw [List.length_set] at h1
        have hd : f.data.set at_.toNat (xorV x0 v) = flipD f.data at_ v := by unfold flipD; rw [hx0]; rfl
        rw [hd] at h1
        have h2 : St w nowhere (QF.row ⟨⟨f.no, f.to, flipD f.data at_ v⟩, ⟨some ⟨gd, 0, none⟩, f.data.length, sc⟩⟩ :: netR (qs.eraseIdx k) :: Row qfE 52 g uc qs :: NetO p (s.upd no (flipD f.data at_ v)) :: []) w' := h1.pulls (.cons .head (.cons (.tail (.tail .head)) (.cons (.tail .head) (.cons .head .nil))))
        have h3 := rows_put hqk h2
        have h4 := (h3.perm (List.Perm.swap _ _ _)).rowV_mk
        have h5 := row_data (set_enc (q' := ⟨⟨f.no, f.to, flipD f.data at_ v⟩, ⟨some ⟨gd, 0, none⟩, f.data.length, sc⟩⟩) hqk rfl) h4
        refine FlO_shut (qs := qs.set k ⟨⟨f.no, f.to, flipD f.data at_ v⟩, ⟨some ⟨gd, 0, none⟩, f.data.length, sc⟩⟩) ?_ h5
        rw [List.map_set, hq, ← hfno, NS.upd_at hs.ok hsk]
    · rintro y ⟨hy, hyd⟩
      (refine hc_seq ?_; refine hc_lex ?_; refine hx_plain rfl ?_; refine h_move rfl rfl rfl rfl ?_; refine hx_plain rfl ?_)
      refine h_call rfl rfl rfl rfl rfl rfl rfl rfl EC.out (.cons (.tail .head) .nil) (under_spec hy hyd) ?_
      rintro u M rfl
      (refine hx_plain rfl ?_; refine h_assign rfl rfl rfl rfl ?_; refine hx_nil ?_; refine hq_then ?_; refine hc_seq ?_; refine hc_lex ?_; refine hx_plain rfl ?_; refine h_move rfl rfl rfl rfl ?_; refine hx_plain rfl ?_; refine h_move rfl rfl rfl rfl ?_; refine hx_plain rfl ?_)
      refine h_callRd rfl rfl rfl rfl rfl rfl EC.out (fun w' h => sameFlights (h.rdFlO .head) (h.rdFlO (.tail (.tail .head)))) ?_
      (refine hx_plain rfl ?_; refine h_assign rfl rfl rfl rfl ?_; refine hx_nil ?_; refine hq_then ?_; refine hc_ret ?_)
      exact hq_ret1 (.inr rfl) rfl rfl ⟨by simp, rfl⟩ (fun _ h => h.emp)
end Go.Proofs.Ytbfmmgbfliebhaa
