import Derived.Test.YtbfmmgbfliebhaaN6
namespace Go.Proofs.Ytbfmmgbfliebhaa
open Go Go.Proofs
set_option maxRecDepth 4000

/-! ### The document's net in memory -/
abbrev rfB (p : Nat) (v : Value) (given : Int) : Asn := Blk p (.cells #[v, .int .i64 given] 78 (0, 0))
abbrev rfL (v : Value) (qs : List QF) : Asn := RowV qfE 52 v qs
def NtR (p : Nat) (s : NS) : Asn := Ex fun x : Value × List QF => All [Fact (x.2.map (·.f) = s.l), rfB p x.1 s.given, rfL x.1 x.2, netR x.2]
theorem NtR_open {p : Nat} {s : NS} (w w0 : World) (F0 : Nat → Prop) (R : List Asn) (h : St w0 F0 (NtR p s :: R) w) : ∃ x : Value × List QF, x.2.map (·.f) = s.l ∧ St w0 F0 ([rfB p x.1 s.given, rfL x.1 x.2, netR x.2] ++ R) w := by
  obtain ⟨x, hx⟩ := St.ex.1 h
  have h2 := St.all.1 hx
  obtain ⟨hl, h3⟩ := St.fact.1 h2
  exact ⟨x, hl, h3⟩
theorem NtR_shut {p : Nat} {v : Value} {s : NS} {qs : List QF} {w w0 : World} {F0 : Nat → Prop} {R : List Asn} (hl : qs.map (·.f) = s.l) (h : St w0 F0 (rfB p v s.given :: rfL v qs :: netR qs :: R) w) : St w0 F0 (NtR p s :: R) w :=
  St.ex.2 ⟨(v, qs), St.all.2 (St.fact.2 ⟨hl, h⟩)⟩
theorem rnew_spec : Spec Try.prog 11 [] [] (fun u M => ∃ p, u = .pointer (some ⟨p, 0, none⟩) ∧ M = [NtR p NS.new]) := by
  refine spec_of Try.func11 rfl rfl (Nat.le_of_ble_eq_true rfl) (fun w F => ?_)
  (refine hc_seq ?_; refine hc_lex ?_; refine hx_plain rfl ?_; refine h_assign rfl rfl rfl rfl ?_; refine hx_nil ?_; refine hq_then ?_; refine hc_seq ?_; refine hc_lex ?_; refine hx_plain rfl ?_; refine h_build rfl inferInstance rfl rfl rfl rfl ?_; refine hx_plain rfl ?_; (refine h_box rfl rfl rfl rfl rfl rfl (fun _ => ?_)); refine hx_plain rfl ?_; refine h_assign rfl rfl rfl rfl ?_; refine hx_nil ?_; refine hq_then ?_; refine hc_ret ?_)
  rename_i p
  refine hq_ret1 (.inr rfl) rfl rfl ⟨p, rfl, rfl⟩ (fun _ h => ?_)
  refine NtR_shut (v := .slice none 0 0) (qs := []) rfl ?_
  have h2 : St w F (All [] :: [rfB p (.slice none 0 0) 0]) _ := St.all.2 h
  exact h2.rowV_nil.pulls (.cons (.tail (.tail .head)) (.cons .head (.cons .head .nil)))
/-- The place of a number, -1 for none. -/
def NS.at (s : NS) (no : Int) : Int := if (s.find no).isSome then (s.idx no : Int) else -1
theorem NS.at_none {s : NS} {no : Int} (h : s.find no = none) : s.at no = -1 := by unfold NS.at; rw [h]; rfl
theorem NS.at_some {s : NS} {no : Int} {f : Fl} (h : s.find no = some f) : s.at no = (s.idx no : Int) := by unfold NS.at; rw [h]; rfl
theorem find_first {s : NS} {no : Int} {i : Nat} {f : Fl} (hi : s.l[i]? = some f) (hf : f.no = no) (hb : ∀ j, j < i → ∀ q, s.l[j]? = some q → q.no ≠ no) : s.at no = (i : Int) := by
  have hs : ∃ f, s.find no = some f := by
    cases h : s.find no with
    | none => exact absurd hf (NS.find_none h f (List.mem_iff_getElem?.2 ⟨i, hi⟩))
    | some f => exact ⟨f, rfl⟩
  obtain ⟨f', hf'⟩ := hs
  rw [NS.at_some hf']
  have h1 := NS.idx_get hf'
  have h2 := (NS.find_some hf').2
  have h3 : s.idx no ≤ i := by
    unfold NS.idx
    rcases Nat.lt_or_ge i (s.l.findIdx (fun f => decide (f.no = no))) with h | h
    · have := List.not_of_lt_findIdx h
      have hl := (List.getElem?_eq_some_iff.1 hi)
      obtain ⟨hl1, hl2⟩ := hl
      simp [hl2, hf] at this
    · exact h
  rcases Nat.lt_or_eq_of_le h3 with h | h
  · exact absurd h2 (hb _ h _ h1)
  · rw [h]
set_option maxHeartbeats 1000000 in
theorem at_spec {p : Nat} {v : Value} {s : NS} {qs : List QF} (no : Int) (hl : qs.map (·.f) = s.l) (hfew : qs.length ≤ 4096) :
    Spec Try.prog 32 [.pointer (some ⟨p, 0, none⟩), .int .i64 no] [rfB p v s.given, rfL v qs] (fun u M => u = .int .i64 (s.at no) ∧ M = [rfB p v s.given, rfL v qs]) := by
  refine spec_of Try.func32 rfl rfl (Nat.le_of_ble_eq_true rfl) (fun w F => ?_)
  (refine hc_seq ?_; refine hc_lex ?_; refine hx_plain rfl ?_; refine h_assign rfl rfl rfl rfl ?_; refine hx_nil ?_; refine hq_then ?_; refine hc_seq ?_; refine hc_seq ?_; refine hc_lex ?_; refine hx_plain rfl ?_; refine h_assign rfl rfl rfl rfl ?_; refine hx_nil ?_; refine hq_then ?_; refine hc_block ?_)
  refine hc_cut (id := 0) (Y := Unit) (fun _ => []) (fun _ => [rfB p v s.given, rfL v qs]) (fun _ => ∀ q ∈ qs, q.f.no ≠ no) ?_ ?_
  · refine hc_loop (X := Nat) (fun i => [(0, .pointer (some ⟨p, 0, none⟩)), (1, .int .i64 no), (5, .int .i64 (i : Int))]) (fun _ => [rfB p v s.given, rfL v qs]) (fun i => i ≤ qs.length ∧ ∀ j, j < i → ∀ q, qs[j]? = some q → q.f.no ≠ no) (fun i => qs.length - i) 0 (.cons rfl (.cons rfl (.cons rfl .nil))) ⟨Nat.zero_le _, fun j hj => absurd hj (Nat.not_lt_zero _)⟩ (fun _ h => h) ?_
    rintro i ⟨hi, hz⟩
    by_cases hlt : i < qs.length
    · refine hc_rowV (.tail .head) ?_ ?_
      · intro _ e
        rw [e] at hlt
        exact absurd hlt (Nat.not_lt_zero _)
      rintro g cap rfl
      obtain ⟨q, hq⟩ : ∃ q, qs[i]? = some q := ⟨_, List.getElem?_eq_getElem hlt⟩
      have e1 : qs[((i : Nat) : Int).toNat]? = some q := hq
      have shut : ∀ w', St w F [Row qfE 52 g cap qs, rfB p (.slice (some ⟨g, 0, none⟩) qs.length cap) s.given] w' → St w F [rfB p (.slice (some ⟨g, 0, none⟩) qs.length cap) s.given, rfL (.slice (some ⟨g, 0, none⟩) qs.length cap) qs] w' := fun w' h => h.rowV_mk.perm (List.Perm.swap _ _ _)
      (refine hc_seq ?_; refine hc_seq ?_; refine hc_lex ?_; refine hx_plain rfl ?_; refine h_move rfl rfl rfl rfl ?_; refine hx_plain rfl ?_; refine h_move rfl rfl rfl rfl ?_; refine hx_plain rfl ?_; refine h_nilCheck rfl rfl rfl rfl ?_; refine hx_plain rfl ?_; refine h_fieldAddr0 rfl rfl FC.out rfl rfl ?_; refine hx_plain rfl ?_; refine h_load rfl rfl UC.out rfl (.tail .head) rfl rfl rfl ?_; refine hx_plain rfl ?_; refine h_len_slice rfl rfl rfl UC.out rfl rfl rfl ?_; refine hx_plain rfl ?_; refine h_cmp rfl rfl rfl rfl rfl rfl ?_; refine hx_nil ?_; refine hq_then ?_; refine hc_condDT rfl (by omega) ?_; refine hc_skip ?_; refine hq_then ?_; refine hc_seq ?_; refine hc_block ?_; refine hc_seq ?_; refine hc_lex ?_; refine hx_plain rfl ?_; refine h_move rfl rfl rfl rfl ?_; refine hx_plain rfl ?_; refine h_nilCheck rfl rfl rfl rfl ?_; refine hx_plain rfl ?_; refine h_fieldAddr0 rfl rfl FC.out rfl rfl ?_; refine hx_plain rfl ?_; refine h_load rfl rfl UC.out rfl (.tail .head) rfl rfl rfl ?_; refine hx_plain rfl ?_; refine h_move rfl rfl rfl rfl ?_; refine hx_plain rfl ?_; refine h_rowAddr rfl rfl rfl UC.out IC.size (by omega) (by omega) rfl rfl ?_; refine hx_plain rfl ?_; refine h_fieldAddr rfl rfl FC.out rfl rfl ?_; refine hx_plain rfl ?_; refine h_rowLoad rfl .head rfl UC.out rfl (by with_reducible assumption) rfl rfl rfl ?_; refine hx_plain rfl ?_; refine h_move rfl rfl rfl rfl ?_; refine hx_plain rfl ?_; refine h_cmp rfl rfl rfl rfl rfl rfl ?_; refine hx_nil ?_; refine hq_then ?_; refine hc_condD rfl (fun hc => ?_) (fun hc => ?_); refine hc_seq ?_; refine hc_lex ?_; refine hx_plain rfl ?_; refine h_move rfl rfl rfl rfl ?_; refine hx_plain rfl ?_; refine h_assign rfl rfl rfl rfl ?_; refine hx_nil ?_; refine hq_then ?_; refine hc_ret ?_; refine hq_ret_block ?_; refine hq_ret_then ?_; refine hq_ret_then ?_; refine hq_cut_ret ?_; refine hq_ret_block ?_; refine hq_ret_then ?_; rotate_left; refine hc_skip ?_; refine hq_norm_block ?_; refine hq_then ?_; refine hc_lex ?_; refine hx_plain rfl ?_; refine h_move rfl rfl rfl rfl ?_; refine hx_plain rfl ?_; refine h_arithI rfl rfl rfl rfl (by omega) rfl rfl ?_; refine hx_plain rfl ?_; refine h_assign rfl rfl rfl rfl ?_; refine hx_nil ?_; rotate_left)
      · refine hq_ret1 (.inr rfl) rfl rfl ⟨?_, rfl⟩ (fun w' h => shut w' h)
        have e2 : s.l[i]? = some q.f := by rw [← hl, List.getElem?_map, hq]; rfl
        rw [find_first e2 hc (fun j hj f hf => by
          rw [← hl, List.getElem?_map] at hf
          cases hj2 : qs[j]? with
          | none => rw [hj2] at hf; cases hf
          | some q2 =>
            rw [hj2] at hf
            have := hz j hj q2 hj2
            rw [← Option.some.inj hf]
            exact this)]
      · refine hq_round (i + 1) (by omega) ⟨by omega, fun j hj q' hq' => ?_⟩ (.cons rfl (.cons rfl (.cons rfl .nil))) (fun w' h => shut w' h)
        rcases Nat.lt_or_eq_of_le (Nat.le_of_lt_succ hj) with h | rfl
        · exact hz j h q' hq'
        · rw [hq] at hq'
          cases hq'
          exact hc
    · (refine hc_seq ?_; refine hc_seq ?_; refine hc_lex ?_; refine hx_plain rfl ?_; refine h_move rfl rfl rfl rfl ?_; refine hx_plain rfl ?_; refine h_move rfl rfl rfl rfl ?_; refine hx_plain rfl ?_; refine h_nilCheck rfl rfl rfl rfl ?_; refine hx_plain rfl ?_; refine h_fieldAddr0 rfl rfl FC.out rfl rfl ?_; refine hx_plain rfl ?_; refine h_load rfl rfl UC.out rfl .head rfl rfl rfl ?_; refine hx_plain rfl ?_)
      refine h_lenV rfl rfl (.tail .head) rfl UC.out rfl rfl rfl ?_
      (refine hx_plain rfl ?_; refine h_cmp rfl rfl rfl rfl rfl rfl ?_; refine hx_nil ?_; refine hq_then ?_; refine hc_condDF rfl (by omega) ?_; refine hc_exit ?_; refine hq_exit_then ?_; refine hq_exit_then ?_)
      refine hq_cut () (fun q hq => ?_) .nil (fun _ h => h)
      obtain ⟨j, hj⟩ := List.mem_iff_getElem?.1 hq
      exact hz j (by have := (List.getElem?_eq_some_iff.1 hj).1; omega) q hj
  · rintro ⟨⟩ hn
    (refine hq_exit_block ?_; refine hq_then ?_; refine hc_seq ?_; refine hc_lex ?_; refine hx_plain rfl ?_; refine h_assign rfl rfl rfl rfl ?_; refine hx_nil ?_; refine hq_then ?_; refine hc_ret ?_)
    refine hq_ret1 (.inr rfl) rfl rfl ⟨?_, rfl⟩ (fun _ h => h)
    rw [NS.at_none]
    cases h : s.find no with
    | none => rfl
    | some f =>
      obtain ⟨hf, e⟩ := NS.find_some h
      rw [← hl] at hf
      obtain ⟨q, hq, rfl⟩ := List.mem_map.1 hf
      exact absurd e (hn q hq)
end Go.Proofs.Ytbfmmgbfliebhaa
