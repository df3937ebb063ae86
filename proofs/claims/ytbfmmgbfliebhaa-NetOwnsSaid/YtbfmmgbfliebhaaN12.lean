import Derived.Test.YtbfmmgbfliebhaaN11
namespace Go.Proofs.Ytbfmmgbfliebhaa
open Go Go.Proofs
set_option maxRecDepth 4000

theorem find_send {s : NS} {m : Int} {f : Fl} (to : Int) (d : List Int) (h : s.find m = some f) : (s.send to d).find m = some f := by
  unfold NS.send
  split
  · show (s.l ++ [_]).find? _ = _
    rw [List.find?_append]
    have h2 : s.l.find? (fun f => decide (f.no = m)) = some f := h
    rw [h2]
    rfl
  · exact h
theorem find_new {s : NS} (hok : s.Ok) (to : Int) (d : List Int) (h : s.l.length < 4096) : (s.send to d).find (s.given + 1) = some ⟨s.given + 1, to, d⟩ := by
  have hk : (s.send to d).l[s.l.length]? = some ⟨s.given + 1, to, d⟩ := by
    unfold NS.send
    rw [if_pos h]
    show (s.l ++ [_])[s.l.length]? = _
    rw [List.getElem?_append_right (Nat.le_refl _), Nat.sub_self]
    rfl
  exact NS.find_at (NS.send_ok hok to d) hk
theorem find_del_ne {s : NS} {m no : Int} (h : m ≠ no) : (s.del no).find m = s.find m := by
  show (s.l.filter _).find? _ = s.l.find? _
  rw [List.find?_filter]
  congr 1
  funext f
  by_cases e : f.no = m
  · rw [e]
    simp [h]
  · simp [e]
theorem del_len {s : NS} (hok : s.Ok) {no : Int} {f : Fl} (h : s.find no = some f) : (s.del no).l.length + 1 = s.l.length := by
  have hk := NS.idx_get h
  have hno := (NS.find_some h).2
  have hl := (List.getElem?_eq_some_iff.1 hk).1
  rw [← hno] at hk hl ⊢
  rw [NS.del_at hok hk, List.length_eraseIdx_of_lt hl]
  omega
/-- The net's numbers are given so far; so many are under way; all bear d. -/
structure NFull (d : List Int) (s : NS) (given len : Int) : Prop where
  ok : s.Ok
  giv : s.given = given
  len : (s.l.length : Int) = len
  dat : ∀ f ∈ s.l, f.data = d
theorem NFull.send {d : List Int} {s : NS} {a b : Int} (h : NFull d s a b) (to : Int) (hb : b < 4096) : NFull d (s.send to d) (a + 1) (b + 1) := by
  have hl : s.l.length < 4096 := by have := h.len; omega
  have e : s.send to d = s.add to d := by unfold NS.send; rw [if_pos hl]
  refine ⟨NS.send_ok h.ok to d, ?_, ?_, ?_⟩
  · rw [e]
    show s.given + 1 = a + 1
    rw [h.giv]
  · rw [e]
    show ((s.l ++ [_]).length : Int) = b + 1
    rw [List.length_append]
    have := h.len
    show ((s.l.length + 1 : Nat) : Int) = b + 1
    omega
  · rw [e]
    intro f hf
    rcases List.mem_append.1 hf with hf | hf
    · exact h.dat f hf
    · simp at hf
      subst hf
      rfl
theorem NFull.sent {d : List Int} {s : NS} {a b : Int} (h : NFull d s a b) (hb : b < 4096) : s.sent = a + 1 := by
  have hl : s.l.length < 4096 := by have := h.len; omega
  unfold NS.sent
  rw [if_pos hl, h.giv]
theorem NFull.sent0 {d : List Int} {s : NS} {a b : Int} (h : NFull d s a b) (hb : b = 4096) (to : Int) (d' : List Int) : s.sent = 0 ∧ s.send to d' = s := by
  have hl : ¬ s.l.length < 4096 := by have := h.len; omega
  exact ⟨by unfold NS.sent; rw [if_neg hl], by unfold NS.send; rw [if_neg hl]⟩
theorem NFull.del {d : List Int} {s : NS} {a b no : Int} {f : Fl} (h : NFull d s a b) (hf : s.find no = some f) : NFull d (s.del no) a (b - 1) := by
  have := del_len h.ok hf
  have h2 := h.len
  exact ⟨NS.del_ok h.ok no, h.giv, by omega, fun f hf => h.dat f (List.mem_filter.1 hf).1⟩
theorem NFull.copy {d : List Int} {s : NS} {a b no : Int} {f : Fl} (h : NFull d s a b) (hf : s.find no = some f) : s.copy no = s.send f.to d ∧ s.copied no = s.sent ∧ s.errOf no = 0 := by
  refine ⟨?_, ?_, NS.errOf_some hf⟩
  · unfold NS.copy
    rw [hf]
    dsimp only
    rw [h.dat f (NS.find_some hf).1]
  · unfold NS.copied
    rw [hf]
theorem tmod_bounds (a : Int) (n : Int) (hn : 0 < n) : -n < a.tmod n ∧ a.tmod n < n := ⟨Int.lt_tmod_of_pos a hn, Int.tmod_lt_of_pos a hn⟩
theorem Rd.clip {v : Value} {d : List Int} {w : World} (h : Rd byteE w v d) : ∃ a c, v = .slice a d.length c := by
  obtain ⟨a, c, e, _⟩ := h
  exact ⟨a, c, e⟩
theorem FlO_open' {v : Value} {l : List Fl} (w w0 : World) (F0 : Nat → Prop) (R : List Asn) (h : St w0 F0 (FlO v l :: R) w) : ∃ x : { qs : List QF // qs.map (·.f) = l }, St w0 F0 ([RowV qfE 52 v x.1, netR x.1] ++ R) w := by
  obtain ⟨qs, e, h2⟩ := FlO_open w w0 F0 R h
  exact ⟨⟨qs, e⟩, h2⟩
set_option maxHeartbeats 4000000 in
theorem full_law {d : List Int} {w : World} {v0 : Value} (more go1 : Int) (h0 : Rd byteE w v0 d) :
    Calls Try.prog 6 [v0, .int .i64 more, .int .i64 go1].toArray w (fun en w' => en = .returned (.bool true) ∧ But w w' nowhere) := by
  obtain ⟨a0, c0, rfl, hdc, _⟩ := id h0
  refine reads_of Try.func6 rfl rfl (Nat.le_of_ble_eq_true rfl) ?_
  (refine hc_seq ?_; refine hc_lex ?_; refine hx_plain rfl ?_; refine h_assign rfl rfl rfl rfl ?_; refine hx_nil ?_; refine hq_then ?_; refine hc_seq ?_; refine hc_lex ?_; refine hx_plain rfl ?_)
  refine h_call rfl rfl rfl rfl rfl rfl rfl rfl EC.out .nil known_spec ?_
  rintro u M ⟨rfl, rfl⟩
  (refine hx_plain rfl ?_; refine h_assign rfl rfl rfl rfl ?_; refine hx_nil ?_; refine hq_then ?_; refine hc_seq ?_; refine hc_lex ?_; refine hx_plain rfl ?_)
  refine h_call rfl rfl rfl rfl rfl rfl rfl rfl EC.out .nil new_spec ?_
  rintro u M ⟨p, rfl, rfl⟩
  (refine hx_plain rfl ?_; refine h_assign rfl rfl rfl rfl ?_; refine hx_nil ?_; refine hq_then ?_)
  refine hc_seq ?_
  refine hc_seq ?_
  refine hc_lex ?_
  (refine hx_plain rfl ?_; refine h_move rfl rfl rfl rfl ?_; refine hx_plain rfl ?_; refine h_not rfl rfl rfl rfl ?_; refine hx_plain rfl ?_; refine h_move rfl rfl rfl rfl ?_; refine hx_yes rfl rfl rfl ?_; refine h_move rfl rfl rfl rfl ?_; refine hx_yes rfl rfl rfl ?_; refine h_eqNil rfl rfl rfl UC.out rfl rfl ?_; refine hx_plain rfl ?_; refine h_pickF rfl rfl rfl rfl rfl ?_; refine hx_nil ?_; refine hq_then ?_)
  refine hc_condF rfl ?_
  refine hc_skip ?_
  refine hq_then ?_
  refine hc_meet (Y := Value × List Int) (fun y => [(0, y.1), (1, .int .i64 more), (2, .int .i64 go1), (8, .pointer (some ⟨p, 0, none⟩))]) (fun _ => [NetO p NS.new]) (fun y => Rd byteE w y.1 y.2 ∧ y.2.length ≤ 64) ?_ ?_
  · (refine hc_seq ?_; refine hc_lex ?_; refine hx_plain rfl ?_; refine h_move rfl rfl rfl rfl ?_; refine hx_plain rfl ?_; refine h_len_slice rfl rfl rfl UC.out rfl rfl rfl ?_; refine hx_plain rfl ?_; refine h_cmp rfl rfl rfl rfl rfl rfl ?_; refine hx_nil ?_; refine hq_then ?_; refine hc_condD rfl (fun hc => ?_) (fun hc => ?_); refine hc_lex ?_; refine hx_plain rfl ?_; refine h_move rfl rfl rfl rfl ?_; refine hx_plain rfl ?_; refine h_sliceTo rfl rfl rfl UC.out IC.size (by omega) rfl rfl ?_; refine hx_plain rfl ?_; refine h_assign rfl rfl rfl rfl ?_; refine hx_nil ?_; rotate_left; refine hc_skip ?_; rotate_left)
    · refine hq_met (.slice a0 64 c0, d.take 64) ⟨h0.takeN (by omega), by rw [List.length_take]; omega⟩ (.cons rfl (.cons rfl (.cons rfl (.cons rfl .nil)))) (fun _ h => h)
    · refine hq_met (.slice a0 d.length c0, d) ⟨h0, by show d.length ≤ 64; omega⟩ (.cons rfl (.cons rfl (.cons rfl (.cons rfl .nil)))) (fun _ h => h)
  clear h0
  rintro ⟨v, d⟩ ⟨h0, hd⟩
  dsimp only at h0 hd ⊢
  obtain ⟨av, cv, rfl⟩ := h0.clip
  have hB : But w w nowhere := .refl w _
  have hF : ∀ b, nowhere b → w.heap.size ≤ b := fun _ h => h.elim
  (refine hc_seq ?_; refine hc_seq ?_; refine hc_lex ?_; refine hx_plain rfl ?_; refine h_assign rfl rfl rfl rfl ?_; refine hx_nil ?_; refine hq_then ?_; refine hc_block ?_)
  refine hc_cut (id := 0) (Y := NS) (fun _ => [(0, .slice av d.length cv), (1, .int .i64 more), (2, .int .i64 go1), (8, .pointer (some ⟨p, 0, none⟩))]) (fun s => [NetO p s]) (fun s => NFull d s 4096 4096 ∧ ∀ m : Int, 1 ≤ m → m ≤ 4096 → ∃ f, s.find m = some f) ?_ ?_
  · refine hc_loop (X := Int × NS) (fun x => [(0, .slice av d.length cv), (1, .int .i64 more), (2, .int .i64 go1), (8, .pointer (some ⟨p, 0, none⟩)), (9, .int .i64 x.1)]) (fun x => [NetO p x.2]) (fun x => (1 ≤ x.1 ∧ x.1 ≤ 4097) ∧ NFull d x.2 (x.1 - 1) (x.1 - 1) ∧ ∀ m : Int, 1 ≤ m → m < x.1 → ∃ f, x.2.find m = some f) (fun x => (4097 - x.1).toNat) (1, NS.new) (.cons rfl (.cons rfl (.cons rfl (.cons rfl (.cons rfl .nil))))) ⟨⟨by decide, by decide⟩, ⟨NS.new_ok, rfl, rfl, fun f hf => by cases hf⟩, fun m h1 h2 => by dsimp only at h2; omega⟩ (fun _ h => h) ?_
    rintro ⟨i, s⟩ ⟨hi, hs, hm⟩
    dsimp only at hi hs hm ⊢
    by_cases hlt : i ≤ 4096
    · have hsg := hs.giv
      (refine hc_seq ?_; refine hc_seq ?_; refine hc_lex ?_; refine hx_plain rfl ?_; refine h_move rfl rfl rfl rfl ?_; refine hx_plain rfl ?_; refine h_cmp rfl rfl rfl rfl rfl rfl ?_; refine hx_nil ?_; refine hq_then ?_; refine hc_condDT rfl (by omega) ?_; refine hc_skip ?_; refine hq_then ?_; refine hc_seq ?_; refine hc_block ?_; refine hc_seq ?_; refine hc_lex ?_; refine hx_plain rfl ?_; refine h_move rfl rfl rfl rfl ?_; refine hx_plain rfl ?_; refine h_move rfl rfl rfl rfl ?_; refine hx_plain rfl ?_; refine h_build rfl inferInstance rfl rfl rfl rfl ?_; refine hx_plain rfl ?_)
      refine h_callB hB hF rfl rfl rfl rfl rfl rfl rfl rfl EC.out (.cons .head .nil) (sendB (to := 0) hs.ok (by omega) h0 (by omega)) ?_
      rintro u M ⟨rfl, rfl⟩
      rw [hs.sent (by omega), show i - 1 + 1 = i by omega]
      (refine hx_plain rfl ?_; refine h_assign rfl rfl rfl rfl ?_; refine hx_nil ?_; refine hq_then ?_; refine hc_seq ?_; refine hc_lex ?_; refine hx_plain rfl ?_; refine h_move rfl rfl rfl rfl ?_; refine hx_plain rfl ?_; refine h_move rfl rfl rfl rfl ?_; refine hx_plain rfl ?_; refine h_cmp rfl rfl rfl rfl rfl rfl ?_; refine hx_nil ?_; refine hq_then ?_; refine hc_condDF rfl (by omega) ?_; refine hc_skip ?_; refine hq_norm_block ?_; refine hq_then ?_; refine hc_lex ?_; refine hx_plain rfl ?_; refine h_move rfl rfl rfl rfl ?_; refine hx_plain rfl ?_; refine h_arithI rfl rfl rfl rfl (by omega) rfl rfl ?_; refine hx_plain rfl ?_; refine h_assign rfl rfl rfl rfl ?_; refine hx_nil ?_)
      refine hq_round (i + 1, s.send 0 d) (by show (4097 - (i + 1)).toNat < (4097 - i).toNat; omega) ⟨by dsimp only; omega, ?_, fun m h1 h2 => ?_⟩ (.cons rfl (.cons rfl (.cons rfl (.cons rfl (.cons rfl .nil))))) (fun _ h => h)
      · have := hs.send 0 (by omega)
        rw [show i - 1 + 1 = i + 1 - 1 by omega] at this
        exact this
      · dsimp only at h2
        by_cases e : m = i
        · have h3 := find_new hs.ok 0 d (by have := hs.len; omega)
          rw [hsg, show i - 1 + 1 = m by omega] at h3
          exact ⟨_, h3⟩
        · obtain ⟨f, hf⟩ := hm m h1 (by omega)
          exact ⟨f, find_send 0 d hf⟩
    · have hi2 : i = 4097 := by omega
      (refine hc_seq ?_; refine hc_seq ?_; refine hc_lex ?_; refine hx_plain rfl ?_; refine h_move rfl rfl rfl rfl ?_; refine hx_plain rfl ?_; refine h_cmp rfl rfl rfl rfl rfl rfl ?_; refine hx_nil ?_; refine hq_then ?_; refine hc_condDF rfl (by omega) ?_; refine hc_exit ?_; refine hq_exit_then ?_; refine hq_exit_then ?_)
      exact hq_cut s ⟨by rw [hi2] at hs; exact hs, fun m h1 h2 => hm m h1 (by omega)⟩ (.cons rfl (.cons rfl (.cons rfl (.cons rfl .nil)))) (fun _ h => h)
  rintro s ⟨hs, hm⟩
  have hmb := tmod_bounds more 20 (by decide)
  (refine hq_exit_block ?_; refine hq_then ?_; refine hc_seq ?_; refine hc_lex ?_; refine hx_plain rfl ?_; refine h_move rfl rfl rfl rfl ?_; refine hx_plain rfl ?_)
  refine h_rem rfl rfl rfl (by decide) rfl rfl ?_
  (refine hx_plain rfl ?_; refine h_arithI rfl rfl rfl rfl (by omega) rfl rfl ?_; refine hx_plain rfl ?_; refine h_remI rfl rfl rfl (by omega) rfl rfl ?_; refine hx_plain rfl ?_; refine h_assign rfl rfl rfl rfl ?_; refine hx_nil ?_; refine hq_then ?_; refine hc_seq ?_; refine hc_seq ?_; refine hc_lex ?_; refine hx_plain rfl ?_; refine h_assign rfl rfl rfl rfl ?_; refine hx_nil ?_; refine hq_then ?_; refine hc_block ?_)
  obtain ⟨mm, hmm⟩ : ∃ mm, (more.tmod 20 + 20) % 20 = mm := ⟨_, rfl⟩
  have hm0 : 0 ≤ mm ∧ mm < 20 := by omega
  rw [hmm]
  skip
  refine hc_cut (id := 2) (Y := Unit) (fun _ => [(2, .int .i64 go1), (8, .pointer (some ⟨p, 0, none⟩))]) (fun _ => [NetO p s]) (fun _ => True) ?_ ?_
  · refine hc_loop (X := Nat) (fun i => [(0, .slice av d.length cv), (1, .int .i64 mm), (2, .int .i64 go1), (8, .pointer (some ⟨p, 0, none⟩)), (11, .int .i64 (i : Int))]) (fun _ => [NetO p s]) (fun i => i ≤ 20) (fun i => 20 - i) 0 (.cons rfl (.cons rfl (.cons rfl (.cons rfl (.cons rfl .nil))))) (Nat.zero_le _) (fun _ h => h) ?_
    intro i hi
    by_cases hlt : (i : Int) ≤ mm
    · obtain ⟨f, hf⟩ := hm (1 + i) (by omega) (by omega)
      have hz := hs.sent0 rfl 0 d
      have hc := hs.copy hf
      have hz2 := hs.sent0 rfl f.to d
      (refine hc_seq ?_; refine hc_seq ?_; refine hc_lex ?_; refine hx_plain rfl ?_; refine h_move rfl rfl rfl rfl ?_; refine hx_plain rfl ?_; refine h_move rfl rfl rfl rfl ?_; refine hx_plain rfl ?_; refine h_cmp rfl rfl rfl rfl rfl rfl ?_; refine hx_nil ?_; refine hq_then ?_; refine hc_condDT rfl (by omega) ?_; refine hc_skip ?_; refine hq_then ?_; refine hc_seq ?_; refine hc_block ?_; refine hc_seq ?_; refine hc_lex ?_; refine hx_plain rfl ?_; refine h_move rfl rfl rfl rfl ?_; refine hx_plain rfl ?_; refine h_move rfl rfl rfl rfl ?_; refine hx_plain rfl ?_; refine h_build rfl inferInstance rfl rfl rfl rfl ?_; refine hx_plain rfl ?_)
      refine h_callB hB hF rfl rfl rfl rfl rfl rfl rfl rfl EC.out (.cons .head .nil) (sendB (to := 0) hs.ok (by rw [hs.giv]; omega) h0 (by omega)) ?_
      rintro u M ⟨rfl, rfl⟩
      rw [hz.1, hz.2]
      (refine hx_plain rfl ?_; refine h_assign rfl rfl rfl rfl ?_; refine hx_nil ?_; refine hq_then ?_; refine hc_seq ?_; refine hc_lex ?_; refine hx_plain rfl ?_; refine h_move rfl rfl rfl rfl ?_; refine hx_plain rfl ?_; refine h_move rfl rfl rfl rfl ?_; refine hx_plain rfl ?_; refine h_arithI rfl rfl rfl rfl (by omega) rfl rfl ?_; refine hx_plain rfl ?_)
      refine h_call rfl rfl rfl rfl rfl rfl rfl rfl EC.out (.cons .head .nil) (copy_spec (1 + i) hs.ok (by rw [hs.giv]; omega) (fun f hf => by rw [hs.dat f hf]; omega)) ?_
      rintro u M ⟨rfl, rfl⟩
      rw [hc.1, hc.2.1, hc.2.2, hz.1, hz2.2]
      (refine hx_plain rfl ?_; refine h_move rfl rfl rfl rfl ?_; refine hx_plain rfl ?_; refine h_extract rfl rfl rfl rfl rfl ?_; refine hx_plain rfl ?_; refine h_extract rfl rfl rfl rfl rfl ?_; refine hx_plain rfl ?_; refine h_assign rfl rfl rfl rfl ?_; refine hx_plain rfl ?_; refine h_assign rfl rfl rfl rfl ?_; refine hx_nil ?_; refine hq_then ?_; refine hc_seq ?_; refine hc_lex ?_; refine hx_plain rfl ?_; refine h_move rfl rfl rfl rfl ?_; refine hx_plain rfl ?_; refine h_cmp rfl rfl rfl rfl rfl rfl ?_; refine hx_plain rfl ?_; refine h_move rfl rfl rfl rfl ?_; refine hx_yes rfl rfl rfl ?_; refine h_move rfl rfl rfl rfl ?_; refine hx_yes rfl rfl rfl ?_; refine h_cmp rfl rfl rfl rfl rfl rfl ?_; refine hx_plain rfl ?_; refine h_pickF rfl rfl rfl rfl rfl ?_; refine hx_plain rfl ?_; refine h_move rfl rfl rfl rfl ?_; refine hx_yes rfl rfl rfl ?_; refine h_move rfl rfl rfl rfl ?_; refine hx_yes rfl rfl rfl ?_)
      refine h_callR rfl rfl rfl rfl rfl rfl EC.out ((num_spec _).reads _) ?_
      (refine hx_yes rfl rfl rfl ?_; refine h_cmp rfl rfl rfl rfl rfl rfl ?_; refine hx_plain rfl ?_; refine h_pickF rfl rfl rfl rfl rfl ?_; refine hx_nil ?_; refine hq_then ?_; refine hc_condF rfl ?_; refine hc_skip ?_; refine hq_norm_block ?_; refine hq_then ?_; refine hc_lex ?_; refine hx_plain rfl ?_; refine h_move rfl rfl rfl rfl ?_; refine hx_plain rfl ?_; refine h_arithI rfl rfl rfl rfl (by omega) rfl rfl ?_; refine hx_plain rfl ?_; refine h_assign rfl rfl rfl rfl ?_; refine hx_nil ?_)
      exact hq_round (i + 1) (by omega) (by omega) (.cons rfl (.cons rfl (.cons rfl (.cons rfl (.cons rfl .nil))))) (fun _ h => h)
    · (refine hc_seq ?_; refine hc_seq ?_; refine hc_lex ?_; refine hx_plain rfl ?_; refine h_move rfl rfl rfl rfl ?_; refine hx_plain rfl ?_; refine h_move rfl rfl rfl rfl ?_; refine hx_plain rfl ?_; refine h_cmp rfl rfl rfl rfl rfl rfl ?_; refine hx_nil ?_; refine hq_then ?_; refine hc_condDF rfl (by omega) ?_; refine hc_exit ?_; refine hq_exit_then ?_; refine hq_exit_then ?_)
      exact hq_cut () trivial (.cons rfl (.cons rfl .nil)) (fun _ h => h)
  rintro ⟨⟩ _
  have hgb := tmod_bounds go1 50 (by decide)
  (refine hq_exit_block ?_; refine hq_then ?_; refine hc_seq ?_; refine hc_lex ?_; refine hx_plain rfl ?_; refine h_move rfl rfl rfl rfl ?_; refine hx_plain rfl ?_)
  refine h_rem rfl rfl rfl (by decide) rfl rfl ?_
  (refine hx_plain rfl ?_; refine h_arithI rfl rfl rfl rfl (by omega) rfl rfl ?_; refine hx_plain rfl ?_; refine h_remI rfl rfl rfl (by omega) rfl rfl ?_; refine hx_plain rfl ?_; refine h_arithI rfl rfl rfl rfl (by omega) rfl rfl ?_; refine hx_plain rfl ?_; refine h_assign rfl rfl rfl rfl ?_; refine hx_nil ?_; refine hq_then ?_; refine hc_seq ?_; refine hc_seq ?_; refine hc_lex ?_; refine hx_plain rfl ?_; refine h_assign rfl rfl rfl rfl ?_; refine hx_nil ?_; refine hq_then ?_; refine hc_block ?_)
  obtain ⟨gn, hgn⟩ : ∃ gn, 1 + (go1.tmod 50 + 50) % 50 = gn := ⟨_, rfl⟩
  have hg0 : 1 ≤ gn ∧ gn ≤ 50 := by omega
  rw [hgn]
  skip
  refine hc_cut (id := 4) (Y := NS) (fun _ => [(8, .pointer (some ⟨p, 0, none⟩)), (15, .int .i64 gn)]) (fun s => [NetO p s]) (fun s => NFull d s 4096 (4096 - gn) ∧ ∃ f, s.find 2 = some f) ?_ ?_
  · refine hc_loop (X := Nat × NS) (fun x => [(8, .pointer (some ⟨p, 0, none⟩)), (15, .int .i64 gn), (16, .int .i64 (x.1 : Int))]) (fun x => [NetO p x.2]) (fun x => (x.1 : Int) ≤ gn ∧ NFull d x.2 4096 (4096 - x.1) ∧ (∃ f, x.2.find 2 = some f) ∧ ∀ j : Nat, x.1 ≤ j → j < 50 → ∃ f, x.2.find (1 + 3 * (j : Int)) = some f) (fun x => 50 - x.1) (0, s) (.cons rfl (.cons rfl (.cons rfl .nil))) ⟨by dsimp only; omega, by simpa using hs, hm 2 (by omega) (by omega), fun j _ h => hm _ (by omega) (by omega)⟩ (fun _ h => h) ?_
    rintro ⟨i, s⟩ ⟨hi, hs, h2, hj⟩
    dsimp only at hi hs h2 hj ⊢
    by_cases hlt : (i : Int) < gn
    · obtain ⟨f, hf⟩ := hj i (Nat.le_refl _) (by omega)
      (refine hc_seq ?_; refine hc_seq ?_; refine hc_lex ?_; refine hx_plain rfl ?_; refine h_move rfl rfl rfl rfl ?_; refine hx_plain rfl ?_; refine h_move rfl rfl rfl rfl ?_; refine hx_plain rfl ?_; refine h_cmp rfl rfl rfl rfl rfl rfl ?_; refine hx_nil ?_; refine hq_then ?_; refine hc_condDT rfl (by omega) ?_; refine hc_skip ?_; refine hq_then ?_; refine hc_seq ?_; refine hc_block ?_; refine hc_seq ?_; refine hc_lex ?_; refine hx_plain rfl ?_; refine h_move rfl rfl rfl rfl ?_; refine hx_plain rfl ?_; refine h_move rfl rfl rfl rfl ?_; refine hx_plain rfl ?_; refine h_arithI rfl rfl rfl rfl (by omega) rfl rfl ?_; refine hx_plain rfl ?_; refine h_arithI rfl rfl rfl rfl (by omega) rfl rfl ?_; refine hx_plain rfl ?_)
      refine h_call rfl rfl rfl rfl rfl rfl rfl rfl EC.out (.cons .head .nil) (drop_spec (1 + 3 * (i : Int)) hs.ok) ?_
      rintro u M ⟨rfl, rfl⟩
      rw [NS.errOf_some hf]
      (refine hx_plain rfl ?_; refine h_assign rfl rfl rfl rfl ?_; refine hx_nil ?_; refine hq_then ?_; refine hc_seq ?_; refine hc_lex ?_; refine hx_plain rfl ?_; refine h_move rfl rfl rfl rfl ?_; refine hx_plain rfl ?_)
      refine h_callR rfl rfl rfl rfl rfl rfl EC.out ((num_spec _).reads _) ?_
      (refine hx_plain rfl ?_; refine h_cmp rfl rfl rfl rfl rfl rfl ?_; refine hx_nil ?_; refine hq_then ?_; refine hc_condF rfl ?_; refine hc_skip ?_; refine hq_norm_block ?_; refine hq_then ?_; refine hc_lex ?_; refine hx_plain rfl ?_; refine h_move rfl rfl rfl rfl ?_; refine hx_plain rfl ?_; refine h_arithI rfl rfl rfl rfl (by omega) rfl rfl ?_; refine hx_plain rfl ?_; refine h_assign rfl rfl rfl rfl ?_; refine hx_nil ?_)
      refine hq_round (i + 1, s.del (1 + 3 * (i : Int))) (by show 50 - (i + 1) < 50 - i; omega) ⟨by dsimp only; omega, ?_, ?_, fun j h1 h3 => ?_⟩ (.cons rfl (.cons rfl (.cons rfl .nil))) (fun _ h => h)
      · have := hs.del hf
        rw [show (4096 : Int) - (i : Int) - 1 = 4096 - ((i + 1 : Nat) : Int) by omega] at this
        exact this
      · obtain ⟨f2, hf2⟩ := h2
        exact ⟨f2, by rw [find_del_ne (by omega)]; exact hf2⟩
      · obtain ⟨f2, hf2⟩ := hj j (by omega) h3
        exact ⟨f2, by dsimp only at h1; rw [find_del_ne (by omega)]; exact hf2⟩
    · have hi2 : (i : Int) = gn := by omega
      (refine hc_seq ?_; refine hc_seq ?_; refine hc_lex ?_; refine hx_plain rfl ?_; refine h_move rfl rfl rfl rfl ?_; refine hx_plain rfl ?_; refine h_move rfl rfl rfl rfl ?_; refine hx_plain rfl ?_; refine h_cmp rfl rfl rfl rfl rfl rfl ?_; refine hx_nil ?_; refine hq_then ?_; refine hc_condDF rfl (by omega) ?_; refine hc_exit ?_; refine hq_exit_then ?_; refine hq_exit_then ?_)
      exact hq_cut s ⟨by rw [hi2] at hs; exact hs, h2⟩ (.cons rfl (.cons rfl .nil)) (fun _ h => h)
  clear hs hm
  rintro s ⟨hs, h2⟩
  (refine hq_exit_block ?_; refine hq_then ?_; refine hc_seq ?_; refine hc_seq ?_; refine hc_lex ?_; refine hx_plain rfl ?_; refine h_assign rfl rfl rfl rfl ?_; refine hx_nil ?_; refine hq_then ?_; refine hc_block ?_)
  refine hc_cut (id := 6) (Y := NS) (fun _ => [(8, .pointer (some ⟨p, 0, none⟩))]) (fun s => [NetO p s]) (fun s => NFull d s (4096 + gn) 4096) ?_ ?_
  · refine hc_loop (X := Int × NS) (fun x => [(8, .pointer (some ⟨p, 0, none⟩)), (15, .int .i64 gn), (18, .int .i64 x.1)]) (fun x => [NetO p x.2]) (fun x => (1 ≤ x.1 ∧ x.1 ≤ gn + 1) ∧ NFull d x.2 (4096 + x.1 - 1) (4096 - gn + x.1 - 1) ∧ ∃ f, x.2.find 2 = some f) (fun x => (51 - x.1).toNat) (1, s) (.cons rfl (.cons rfl (.cons rfl .nil))) ⟨⟨by dsimp only; omega, by dsimp only; omega⟩, by dsimp only; rw [show (4096 : Int) + 1 - 1 = 4096 by omega, show (4096 : Int) - gn + 1 - 1 = 4096 - gn by omega]; exact hs, h2⟩ (fun _ h => h) ?_
    rintro ⟨i, s⟩ ⟨hi, hs, f, hf⟩
    dsimp only at hi hs hf ⊢
    by_cases hlt : i ≤ gn
    · have hc := hs.copy hf
      (refine hc_seq ?_; refine hc_seq ?_; refine hc_lex ?_; refine hx_plain rfl ?_; refine h_move rfl rfl rfl rfl ?_; refine hx_plain rfl ?_; refine h_move rfl rfl rfl rfl ?_; refine hx_plain rfl ?_; refine h_cmp rfl rfl rfl rfl rfl rfl ?_; refine hx_nil ?_; refine hq_then ?_; refine hc_condDT rfl (by omega) ?_; refine hc_skip ?_; refine hq_then ?_; refine hc_seq ?_; refine hc_block ?_; refine hc_seq ?_; refine hc_lex ?_; refine hx_plain rfl ?_; refine h_move rfl rfl rfl rfl ?_; refine hx_plain rfl ?_)
      refine h_call rfl rfl rfl rfl rfl rfl rfl rfl EC.out (.cons .head .nil) (copy_spec 2 hs.ok (by rw [hs.giv]; omega) (fun f hf => by rw [hs.dat f hf]; omega)) ?_
      rintro u M ⟨rfl, rfl⟩
      rw [hc.1, hc.2.1, hc.2.2, hs.sent (by omega), show (4096 : Int) + i - 1 + 1 = 4096 + i by omega]
      (refine hx_plain rfl ?_; refine h_move rfl rfl rfl rfl ?_; refine hx_plain rfl ?_; refine h_extract rfl rfl rfl rfl rfl ?_; refine hx_plain rfl ?_; refine h_extract rfl rfl rfl rfl rfl ?_; refine hx_plain rfl ?_; refine h_assign rfl rfl rfl rfl ?_; refine hx_plain rfl ?_; refine h_assign rfl rfl rfl rfl ?_; refine hx_nil ?_; refine hq_then ?_; refine hc_seq ?_; refine hc_lex ?_; refine hx_plain rfl ?_; refine h_move rfl rfl rfl rfl ?_; refine hx_plain rfl ?_; refine h_move rfl rfl rfl rfl ?_; refine hx_plain rfl ?_; refine h_arithI rfl rfl rfl rfl (by omega) rfl rfl ?_; refine hx_plain rfl ?_; refine h_cmp rfl rfl rfl rfl rfl rfl ?_; refine hx_plain rfl ?_; refine h_move rfl rfl rfl rfl ?_; refine hx_gF rfl rfl rfl (by omega) ?_; refine hx_yes rfl rfl rfl ?_; refine h_move rfl rfl rfl rfl ?_; refine hx_yes rfl rfl rfl ?_)
      refine h_callR rfl rfl rfl rfl rfl rfl EC.out ((num_spec _).reads _) ?_
      (refine hx_yes rfl rfl rfl ?_; refine h_cmp rfl rfl rfl rfl rfl rfl ?_; refine hx_plain rfl ?_; refine h_pickF rfl rfl rfl rfl rfl ?_; refine hx_nil ?_; refine hq_then ?_; refine hc_condF rfl ?_; refine hc_skip ?_; refine hq_norm_block ?_; refine hq_then ?_; refine hc_lex ?_; refine hx_plain rfl ?_; refine h_move rfl rfl rfl rfl ?_; refine hx_plain rfl ?_; refine h_arithI rfl rfl rfl rfl (by omega) rfl rfl ?_; refine hx_plain rfl ?_; refine h_assign rfl rfl rfl rfl ?_; refine hx_nil ?_)
      refine hq_round (i + 1, s.send f.to d) (by show (51 - (i + 1)).toNat < (51 - i).toNat; omega) ⟨by dsimp only; omega, ?_, f, find_send _ _ hf⟩ (.cons rfl (.cons rfl (.cons rfl .nil))) (fun _ h => h)
      have := hs.send f.to (by omega)
      rw [show (4096 : Int) + i - 1 + 1 = 4096 + (i + 1) - 1 by omega, show (4096 : Int) - gn + i - 1 + 1 = 4096 - gn + (i + 1) - 1 by omega] at this
      exact this
    · have hi2 : i = gn + 1 := by omega
      (refine hc_seq ?_; refine hc_seq ?_; refine hc_lex ?_; refine hx_plain rfl ?_; refine h_move rfl rfl rfl rfl ?_; refine hx_plain rfl ?_; refine h_move rfl rfl rfl rfl ?_; refine hx_plain rfl ?_; refine h_cmp rfl rfl rfl rfl rfl rfl ?_; refine hx_nil ?_; refine hq_then ?_; refine hc_condDF rfl (by omega) ?_; refine hc_exit ?_; refine hq_exit_then ?_; refine hq_exit_then ?_)
      refine hq_cut s ?_ (.cons rfl .nil) (fun _ h => h)
      rw [hi2, show (4096 : Int) + (gn + 1) - 1 = 4096 + gn by omega, show (4096 : Int) - gn + (gn + 1) - 1 = 4096 by omega] at hs
      exact hs
  clear hs h2
  rintro s hs
  have hz := hs.sent0 rfl 0 []
  (refine hq_exit_block ?_; refine hq_then ?_; refine hc_seq ?_; refine hc_lex ?_; refine hx_plain rfl ?_; refine h_move rfl rfl rfl rfl ?_; refine hx_plain rfl ?_; refine h_build rfl inferInstance rfl rfl rfl rfl ?_; refine hx_plain rfl ?_)
  refine h_callB hB hF rfl rfl rfl rfl rfl rfl rfl rfl EC.out (.cons .head .nil) (sendB (to := 0) (d := []) hs.ok (by rw [hs.giv]; omega) ⟨none, 0, rfl, Nat.le_refl _, by unfold maxLen; omega, .inl rfl⟩ (by decide)) ?_
  rintro u M ⟨rfl, rfl⟩
  rw [hz.1, hz.2]
  (refine hx_plain rfl ?_; refine h_assign rfl rfl rfl rfl ?_; refine hx_nil ?_; refine hq_then ?_; refine hc_seq ?_; refine hc_lex ?_; refine hx_plain rfl ?_; refine h_move rfl rfl rfl rfl ?_; refine hx_plain rfl ?_)
  refine h_call rfl rfl rfl rfl rfl rfl rfl rfl EC.out (.cons .head .nil) (under_spec hs.ok (fun f hf => by rw [hs.dat f hf]; omega)) ?_
  rintro u M rfl
  (refine hx_plain rfl ?_; refine h_assign rfl rfl rfl rfl ?_; refine hx_nil ?_; refine hq_then ?_)
  refine hc_open .head FlO_open' ?_
  rintro ⟨qs, hq⟩
  have hql : (qs.length : Int) = 4096 := by
    have := hs.len
    rw [← hq, List.length_map] at this
    exact this
  refine hc_know (fun _ h => St.rowV_shapeS h .head) ?_
  rintro ⟨ua, uc, rfl⟩
  (refine hc_seq ?_; refine hc_lex ?_; refine hx_plain rfl ?_; refine h_move rfl rfl rfl rfl ?_; refine hx_plain rfl ?_; refine h_cmp rfl rfl rfl rfl rfl rfl ?_; refine hx_plain rfl ?_; refine h_move rfl rfl rfl rfl ?_; refine hx_yes rfl rfl rfl ?_; refine h_move rfl rfl rfl rfl ?_; refine hx_yes rfl rfl rfl ?_; refine h_len_slice rfl rfl rfl UC.out rfl rfl rfl ?_; refine hx_yes rfl rfl rfl ?_; refine h_cmp rfl rfl rfl rfl rfl rfl ?_; refine hx_plain rfl ?_; refine h_pickT rfl rfl rfl rfl rfl ?_; refine hx_plain rfl ?_; refine h_assign rfl rfl rfl rfl ?_; refine hx_nil ?_; refine hq_then ?_; refine hc_ret ?_)
  refine hq_ret1 (.inr rfl) rfl rfl ⟨?_, rfl⟩ (fun _ h => h.emp)
  show Value.bool (decide ((qs.length : Int) = 4096)) = .bool true
  rw [decide_eq_true hql]
end Go.Proofs.Ytbfmmgbfliebhaa
