import Derived.Test.YtbfmmgbfliebhaaN1
namespace Go.Proofs.Ytbfmmgbfliebhaa
open Go Go.Proofs
set_option maxRecDepth 4000

/-! ### Flights in memory, compared -/
structure QF where
  f : Fl
  sl : SlV
def qfE : Elem QF where
  sz := 3
  pos := by decide
  enc q := [.int .i64 q.f.no, .int .i64 q.f.to, q.sl.v]
  len _ := rfl
  one q v hv := by
    simp at hv
    rcases hv with rfl | rfl | rfl <;> rfl
/-- In w the slice reads as these flights. -/
def RdF (w : World) (v : Value) (l : List Fl) : Prop := ∃ qs : List QF, qs.map (·.f) = l ∧ Rd qfE w v qs ∧ ∀ q ∈ qs, Rd byteE w q.sl.v q.f.data
theorem RdF.but {w w' : World} {v : Value} {l : List Fl} (h : RdF w v l) (hb : But w w' nowhere) : RdF w' v l := by
  obtain ⟨qs, e, h1, h2⟩ := h
  exact ⟨qs, e, h1.but hb, fun q hq => (h2 q hq).but hb⟩
abbrev flV (q : QF) : Value := .agg #[.int .i64 q.f.no, .int .i64 q.f.to, q.sl.v]
set_option maxHeartbeats 1000000 in
theorem sameFlight {qa qb : QF} {w : World} (ha : Rd byteE w qa.sl.v qa.f.data) (hb : Rd byteE w qb.sl.v qb.f.data) :
    Calls Try.prog 37 [flV qa, flV qb].toArray w (fun en w' => en = .returned (.bool (decide (qa.f = qb.f))) ∧ But w w' nowhere) := by
  obtain ⟨⟨na, ta, da⟩, sa⟩ := qa
  obtain ⟨⟨nb, tb, db⟩, sb⟩ := qb
  dsimp only at ha hb ⊢
  have key : ∀ b : Bool, (b = true ↔ na = nb ∧ ta = tb ∧ da = db) → b = decide ((⟨na, ta, da⟩ : Fl) = ⟨nb, tb, db⟩) := fun b hk => by
    by_cases h : (⟨na, ta, da⟩ : Fl) = ⟨nb, tb, db⟩
    · rw [decide_eq_true h]
      injection h with e1 e2 e3
      exact hk.2 ⟨e1, e2, e3⟩
    · rw [decide_eq_false h]
      cases b with
      | false => rfl
      | true =>
        obtain ⟨e1, e2, e3⟩ := hk.1 rfl
        exact absurd (by rw [e1, e2, e3]) h
  refine reads_of Try.func37 rfl rfl (Nat.le_of_ble_eq_true rfl) ?_
  (refine hc_seq ?_; refine hc_lex ?_; refine hx_plain rfl ?_; (refine h_box rfl rfl rfl rfl rfl rfl (fun _ => ?_)); refine hx_plain rfl ?_; (refine h_box rfl rfl rfl rfl rfl rfl (fun _ => ?_)); refine hx_plain rfl ?_; refine h_assign rfl rfl rfl rfl ?_; refine hx_nil ?_; refine hq_then ?_; refine hc_seq ?_; refine hc_lex ?_; refine hx_plain rfl ?_; refine h_fieldAddr0 rfl rfl FC.out rfl rfl ?_; refine hx_plain rfl ?_; refine h_load rfl rfl UC.out rfl (.tail .head) rfl rfl rfl ?_; refine hx_plain rfl ?_; refine h_fieldAddr0 rfl rfl FC.out rfl rfl ?_; refine hx_plain rfl ?_; refine h_load rfl rfl UC.out rfl .head rfl rfl rfl ?_; refine hx_plain rfl ?_)
  refine h_callRd rfl rfl rfl rfl rfl rfl EC.out (fun w' h => sameBytes (h.sub .nil |> fun h => h.rd ha) (h.sub .nil |> fun h => h.rd hb)) ?_
  (refine hx_plain rfl ?_; refine h_assign rfl rfl rfl rfl ?_; refine hx_nil ?_; refine hq_then ?_; refine hc_seq ?_; refine hc_lex ?_; refine hx_plain rfl ?_; refine h_move rfl rfl rfl rfl ?_; refine hx_plain rfl ?_; refine h_move rfl rfl rfl rfl ?_; refine hx_gcaseD rfl rfl rfl (fun hc => ?_) (fun hc => ?_); refine hx_yes rfl rfl rfl ?_; refine h_fieldAddr0 rfl rfl FC.out rfl rfl ?_; refine hx_yes rfl rfl rfl ?_; refine h_load rfl rfl UC.out rfl (.tail .head) rfl rfl rfl ?_; refine hx_yes rfl rfl rfl ?_; refine h_fieldAddr0 rfl rfl FC.out rfl rfl ?_; refine hx_yes rfl rfl rfl ?_; refine h_load rfl rfl UC.out rfl .head rfl rfl rfl ?_; refine hx_yes rfl rfl rfl ?_; refine h_cmp rfl rfl rfl rfl rfl rfl ?_; refine hx_plain rfl ?_; refine h_pickT rfl rfl rfl rfl rfl ?_; refine hx_plain rfl ?_; refine h_move rfl rfl rfl rfl ?_; refine hx_gcaseD rfl rfl rfl (fun hc => ?_) (fun hc => ?_); refine hx_yes rfl rfl rfl ?_; refine h_fieldAddr0 rfl rfl FC.out rfl rfl ?_; refine hx_yes rfl rfl rfl ?_; refine h_load rfl rfl UC.out rfl (.tail .head) rfl rfl rfl ?_; refine hx_yes rfl rfl rfl ?_; refine h_fieldAddr0 rfl rfl FC.out rfl rfl ?_; refine hx_yes rfl rfl rfl ?_; refine h_load rfl rfl UC.out rfl .head rfl rfl rfl ?_; refine hx_yes rfl rfl rfl ?_; refine h_cmp rfl rfl rfl rfl rfl rfl ?_; refine hx_plain rfl ?_; refine h_pickT rfl rfl rfl rfl rfl ?_; refine hx_plain rfl ?_; refine h_assign rfl rfl rfl rfl ?_; refine hx_nil ?_; refine hq_then ?_; refine hc_ret ?_; rotate_left; refine hx_skip rfl rfl rfl rfl rfl rfl ?_; refine hx_skip rfl rfl rfl rfl rfl rfl ?_; refine hx_skip rfl rfl rfl rfl rfl rfl ?_; refine hx_skip rfl rfl rfl rfl rfl rfl ?_; refine hx_skip rfl rfl rfl rfl rfl rfl ?_; refine hx_plain rfl ?_; refine h_pickF rfl rfl rfl rfl rfl ?_; refine hx_plain rfl ?_; refine h_assign rfl rfl rfl rfl ?_; refine hx_nil ?_; refine hq_then ?_; refine hc_ret ?_; rotate_left; refine hx_skip rfl rfl rfl rfl rfl rfl ?_; refine hx_skip rfl rfl rfl rfl rfl rfl ?_; refine hx_skip rfl rfl rfl rfl rfl rfl ?_; refine hx_skip rfl rfl rfl rfl rfl rfl ?_; refine hx_skip rfl rfl rfl rfl rfl rfl ?_; refine hx_plain rfl ?_; refine h_pickF rfl rfl rfl rfl rfl ?_; refine hx_plain rfl ?_; refine h_move rfl rfl rfl rfl ?_; refine hx_skip rfl rfl rfl rfl rfl rfl ?_; refine hx_skip rfl rfl rfl rfl rfl rfl ?_; refine hx_skip rfl rfl rfl rfl rfl rfl ?_; refine hx_skip rfl rfl rfl rfl rfl rfl ?_; refine hx_skip rfl rfl rfl rfl rfl rfl ?_; refine hx_plain rfl ?_; refine h_pickF rfl rfl rfl rfl rfl ?_; refine hx_plain rfl ?_; refine h_assign rfl rfl rfl rfl ?_; refine hx_nil ?_; refine hq_then ?_; refine hc_ret ?_; rotate_left)
  all_goals (refine hq_ret1 (.inr rfl) rfl rfl ⟨?_, rfl⟩ (fun _ h => h.emp); rw [← key])
  all_goals simp_all
set_option maxHeartbeats 1000000 in
/-- Lists of flights, compared. -/
theorem sameFlights {l m : List Fl} {w : World} {v1 v2 : Value} (h1 : RdF w v1 l) (h2 : RdF w v2 m) :
    Calls Try.prog 22 [v1, v2].toArray w (fun en w' => en = .returned (.bool (decide (l = m))) ∧ But w w' nowhere) := by
  obtain ⟨xs, rfl, h1, d1⟩ := h1
  obtain ⟨ys, rfl, h2, d2⟩ := h2
  obtain ⟨a1, c1, rfl, l1, m1, k1⟩ := h1
  obtain ⟨a2, c2, rfl, l2, m2, k2⟩ := h2
  unfold maxLen at m1 m2
  refine reads_of Try.func22 rfl rfl (Nat.le_of_ble_eq_true rfl) ?_
  (refine hc_seq ?_; refine hc_lex ?_; refine hx_plain rfl ?_; refine h_assign rfl rfl rfl rfl ?_; refine hx_nil ?_; refine hq_then ?_; refine hc_seq ?_; refine hc_seq ?_; refine hc_lex ?_; refine hx_plain rfl ?_; refine h_move rfl rfl rfl rfl ?_; refine hx_plain rfl ?_; refine h_len_slice rfl rfl rfl UC.out rfl rfl rfl ?_; refine hx_plain rfl ?_; refine h_move rfl rfl rfl rfl ?_; refine hx_plain rfl ?_; refine h_len_slice rfl rfl rfl UC.out rfl rfl rfl ?_; refine hx_plain rfl ?_; refine h_cmp rfl rfl rfl rfl rfl rfl ?_; refine hx_nil ?_; refine hq_then ?_; refine hc_condD rfl (fun hc => ?_) (fun hc => ?_); refine hc_seq ?_; refine hc_lex ?_; refine hx_plain rfl ?_; refine h_assign rfl rfl rfl rfl ?_; refine hx_nil ?_; refine hq_then ?_; refine hc_ret ?_; refine hq_ret_then ?_; rotate_left; refine hc_skip ?_; refine hq_then ?_; refine hc_seq ?_; refine hc_seq ?_; refine hc_lex ?_; refine hx_plain rfl ?_; refine h_assign rfl rfl rfl rfl ?_; refine hx_nil ?_; refine hq_then ?_; refine hc_block ?_; rotate_left)
  · refine hq_ret1 (.inr rfl) rfl rfl ⟨?_, rfl⟩ (fun _ h => h.emp)
    rw [decide_eq_false]
    intro e
    have := congrArg List.length e
    rw [List.length_map, List.length_map] at this
    exact hc (by rw [this])
  have hlen : xs.length = ys.length := by have := Classical.not_not.1 hc; omega
  refine hc_cut (id := 0) (Y := Unit) (fun _ => []) (fun _ => []) (fun _ => xs.map (·.f) = ys.map (·.f)) ?_ ?_
  · refine hc_loop (X := Nat) (fun i => [(0, .slice a1 xs.length c1), (1, .slice a2 ys.length c2), (5, .int .i64 (i : Int))]) (fun _ => []) (fun i => i ≤ xs.length ∧ (xs.map (·.f)).take i = (ys.map (·.f)).take i) (fun i => xs.length - i) 0 (.cons rfl (.cons rfl (.cons rfl .nil))) ⟨Nat.zero_le _, by rw [List.take_zero, List.take_zero]⟩ (fun _ h => h) ?_
    rintro i ⟨hi, hz⟩
    by_cases hlt : i < xs.length
    · have hlt2 : i < ys.length := by omega
      have hx : xs ≠ [] := by
        intro e
        rw [e] at hlt
        exact absurd hlt (Nat.not_lt_zero _)
      have hy : ys ≠ [] := by
        intro e
        rw [e] at hlt2
        exact absurd hlt2 (Nat.not_lt_zero _)
      obtain ⟨g1, o1, rfl, r1⟩ := k1.resolve_left hx
      obtain ⟨g2, o2, rfl, r2⟩ := k2.resolve_left hy
      obtain ⟨p, hp⟩ : ∃ p, xs[i] = p := ⟨_, rfl⟩
      obtain ⟨q, hq⟩ : ∃ q, ys[i] = q := ⟨_, rfl⟩
      have e1 : xs[((i : Nat) : Int).toNat]? = some p := by rw [← hp]; exact List.getElem?_eq_getElem hlt
      have e2 : ys[((i : Nat) : Int).toNat]? = some q := by rw [← hq]; exact List.getElem?_eq_getElem hlt2
      have dp := d1 p (by rw [← hp]; exact List.getElem_mem hlt)
      have dq := d2 q (by rw [← hq]; exact List.getElem_mem hlt2)
      have ep : (xs.map (·.f))[i]? = some p.f := by rw [List.getElem?_map, List.getElem?_eq_getElem hlt, hp]; rfl
      have eq : (ys.map (·.f))[i]? = some q.f := by rw [List.getElem?_map, List.getElem?_eq_getElem hlt2, hq]; rfl
      (refine hc_seq ?_; refine hc_seq ?_; refine hc_lex ?_; refine hx_plain rfl ?_; refine h_move rfl rfl rfl rfl ?_; refine hx_plain rfl ?_; refine h_move rfl rfl rfl rfl ?_; refine hx_plain rfl ?_; refine h_len_slice rfl rfl rfl UC.out rfl rfl rfl ?_; refine hx_plain rfl ?_; refine h_cmp rfl rfl rfl rfl rfl rfl ?_; refine hx_nil ?_; refine hq_then ?_; refine hc_condDT rfl (by omega) ?_; refine hc_skip ?_; refine hq_then ?_; refine hc_seq ?_; refine hc_block ?_; refine hc_seq ?_; refine hc_draw0 (by kernel_rfl) (by kernel_rfl) ?_; refine hx_plain rfl ?_; refine h_move rfl rfl rfl rfl ?_; refine hx_plain rfl ?_; refine h_move rfl rfl rfl rfl ?_; refine hx_plain rfl ?_; refine h_indexAddr rfl rfl rfl UC.out IC.size (by omega) (by omega) rfl rfl ?_; refine hx_plain rfl ?_; refine h_rdLoadN rfl r1 rfl UC.out rfl IC.size (by with_reducible assumption) rfl rfl rfl ?_; refine hx_plain rfl ?_; refine h_move rfl rfl rfl rfl ?_; refine hx_plain rfl ?_; refine h_move rfl rfl rfl rfl ?_; refine hx_plain rfl ?_; refine h_indexAddr rfl rfl rfl UC.out IC.size (by omega) (by omega) rfl rfl ?_; refine hx_plain rfl ?_; refine h_rdLoadN rfl r2 rfl UC.out rfl IC.size (by with_reducible assumption) rfl rfl rfl ?_; refine hx_plain rfl ?_)
      refine h_callRd rfl rfl rfl rfl rfl rfl EC.out (fun w' h => sameFlight (qa := p) (qb := q) (h.rd dp) (h.rd dq)) ?_
      (refine hx_plain rfl ?_; refine h_assign rfl rfl rfl rfl ?_; refine hx_nil ?_; refine hq_then ?_; refine hc_seq ?_; refine hc_lex ?_; refine hx_plain rfl ?_; refine h_move rfl rfl rfl rfl ?_; refine hx_plain rfl ?_; refine h_not rfl rfl rfl rfl ?_; refine hx_nil ?_; refine hq_then ?_; refine hc_cond rfl (fun hc => ?_) (fun hc => ?_); refine hc_seq ?_; refine hc_lex ?_; refine hx_plain rfl ?_; refine h_assign rfl rfl rfl rfl ?_; refine hx_nil ?_; refine hq_then ?_; refine hc_ret ?_; refine hq_ret_block ?_; refine hq_ret_then ?_; refine hq_ret_then ?_; refine hq_cut_ret ?_; refine hq_ret_block ?_; refine hq_ret_then ?_; rotate_left; refine hc_skip ?_; refine hq_norm_block ?_; refine hq_then ?_; refine hc_lex ?_; refine hx_plain rfl ?_; refine h_move rfl rfl rfl rfl ?_; refine hx_plain rfl ?_; refine h_arithI rfl rfl rfl rfl (by omega) rfl rfl ?_; refine hx_plain rfl ?_; refine h_assign rfl rfl rfl rfl ?_; refine hx_nil ?_; rotate_left)
      · refine hq_ret1 (.inr rfl) rfl rfl ⟨?_, rfl⟩ (fun _ h => h.emp)
        rw [decide_eq_false]
        intro e
        rw [e, eq] at ep
        have := Option.some.inj ep
        simp [this] at hc
      · refine hq_round (i + 1) (by omega) ⟨by omega, ?_⟩ (.cons rfl (.cons rfl (.cons rfl .nil))) (fun _ h => h)
        have hpq : p.f = q.f := by simpa using hc
        rw [List.take_add_one, List.take_add_one, ep, eq, hz, hpq]
    · (refine hc_seq ?_; refine hc_seq ?_; refine hc_lex ?_; refine hx_plain rfl ?_; refine h_move rfl rfl rfl rfl ?_; refine hx_plain rfl ?_; refine h_move rfl rfl rfl rfl ?_; refine hx_plain rfl ?_; refine h_len_slice rfl rfl rfl UC.out rfl rfl rfl ?_; refine hx_plain rfl ?_; refine h_cmp rfl rfl rfl rfl rfl rfl ?_; refine hx_nil ?_; refine hq_then ?_; refine hc_condDF rfl (by omega) ?_; refine hc_exit ?_; refine hq_exit_then ?_; refine hq_exit_then ?_)
      refine hq_cut () ?_ .nil (fun _ h => h)
      rwa [List.take_of_length_le (by rw [List.length_map]; omega), List.take_of_length_le (by rw [List.length_map]; omega)] at hz
  · rintro ⟨⟩ hz
    (refine hq_exit_block ?_; refine hq_then ?_; refine hc_seq ?_; refine hc_lex ?_; refine hx_plain rfl ?_; refine h_assign rfl rfl rfl rfl ?_; refine hx_nil ?_; refine hq_then ?_; refine hc_ret ?_)
    exact hq_ret1 (.inr rfl) rfl rfl ⟨by rw [decide_eq_true hz], rfl⟩ (fun _ h => h.emp)
end Go.Proofs.Ytbfmmgbfliebhaa
