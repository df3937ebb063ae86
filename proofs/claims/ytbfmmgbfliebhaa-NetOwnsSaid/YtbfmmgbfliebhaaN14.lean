import Derived.Test.YtbfmmgbfliebhaaN13
namespace Go.Proofs.Ytbfmmgbfliebhaa
open Go Go.Proofs
set_option maxRecDepth 4000

/-- A fate that is handed in. -/
structure FtN where
  kind : Int
  k : Int
  at_ : Int
  v : Int
  sl : SlV
def ftE : Elem FtN where
  sz := 5
  pos := by decide
  enc t := [.int .i64 t.kind, .int .i64 t.k, .int .i64 t.at_, .int .i64 t.v, t.sl.v]
  len _ := rfl
  one q v hv := by
    simp at hv
    rcases hv with rfl | rfl | rfl | rfl | rfl <;> rfl
def FtR (w : World) (q : FtN × List Int) : Prop := Rd byteE w q.1.sl.v q.2 ∧ q.2.length ≤ 140737488351232
theorem find_del_self {s : NS} {no : Int} : (s.del no).find no = none := by
  show (s.l.filter _).find? _ = none
  rw [List.find?_filter]
  apply List.find?_eq_none.2
  intro f _
  simp
/-- What is known of the net in each round. -/
structure FtS (s : NS) (i : Nat) : Prop where
  ok : s.Ok
  giv : s.given ≤ i
  len : s.l.length ≤ i
  dat : ∀ f ∈ s.l, f.data.length ≤ 140737488351232
theorem FtS.send {s : NS} {i : Nat} (h : FtS s i) (hi : i < 4096) (to : Int) {d : List Int} (hd : d.length ≤ 140737488351232) : FtS (s.send to d) (i + 1) ∧ s.sent = s.given + 1 ∧ (s.send to d).given = s.given + 1 ∧ (s.send to d).l = s.l ++ [⟨s.given + 1, to, d⟩] := by
  have hl : s.l.length < 4096 := Nat.lt_of_le_of_lt h.len hi
  have e : s.send to d = s.add to d := by unfold NS.send; rw [if_pos hl]
  have e2 : s.sent = s.given + 1 := by unfold NS.sent; rw [if_pos hl]
  refine ⟨⟨NS.send_ok h.ok to d, ?_, ?_, ?_⟩, e2, by rw [e]; rfl, by rw [e]; rfl⟩
  · rw [e]
    show s.given + 1 ≤ _
    have := h.giv
    omega
  · rw [e]
    show (s.l ++ [_]).length ≤ i + 1
    rw [List.length_append]
    have := h.len
    show s.l.length + 1 ≤ i + 1
    omega
  · rw [e]
    intro f hf
    rcases List.mem_append.1 hf with hf | hf
    · exact h.dat f hf
    · simp at hf
      subst hf
      exact hd
theorem FtS.next {s : NS} {i : Nat} (h : FtS s i) : FtS s (i + 1) := ⟨h.ok, by have := h.giv; omega, by have := h.len; omega, h.dat⟩
theorem FtS.del {s : NS} {i : Nat} (h : FtS s i) (no : Int) : FtS (s.del no) (i + 1) :=
  ⟨NS.del_ok h.ok no, by have := h.giv; show s.given ≤ _; omega, Nat.le_trans (List.length_filter_le _ _) (by have := h.len; omega), fun f hf => h.dat f (List.mem_filter.1 hf).1⟩
theorem FtS.upd {s : NS} {i : Nat} (h : FtS s i) (no : Int) {d : List Int} (hd : d.length ≤ 140737488351232) : FtS (s.upd no d) (i + 1) := by
  refine ⟨NS.upd_ok h.ok no d, by have := h.giv; show s.given ≤ _; omega, ?_, fun f hf => ?_⟩
  · show (s.l.map _).length ≤ _
    rw [List.length_map]
    have := h.len
    omega
  · obtain ⟨f0, hf0, rfl⟩ := List.mem_map.1 (show f ∈ s.l.map _ from hf)
    split
    · exact hd
    · exact h.dat f0 hf0
theorem rows_snoc {ks : List QF} {q : QF} {w w0 : World} {F0 : Nat → Prop} {R : List Asn} (h : St w0 F0 (netR ks :: QF.row q :: R) w) : St w0 F0 (netR (ks ++ [q]) :: R) w := by
  unfold netR
  rw [List.map_append]
  exact shl_snoc h
set_option maxHeartbeats 8000000 in
theorem fates_law {xs : List (FtN × List Int)} {w : World} {v0 : Value} (h0 : Rd ftE w v0 (xs.map (·.1))) (hx : ∀ q ∈ xs, FtR w q) :
    Calls Try.prog 5 [v0].toArray w (fun en w' => en = .returned (.bool true) ∧ But w w' nowhere) := by
  obtain ⟨a0, c0, rfl, l0, m0, k0⟩ := id h0
  rw [List.length_map] at l0
  unfold maxLen at m0
  refine reads_of Try.func5 rfl rfl (Nat.le_of_ble_eq_true rfl) ?_
  have hB : But w w nowhere := .refl w _
  have hF : ∀ b, nowhere b → w.heap.size ≤ b := fun _ h => h.elim
  rw [List.length_map]
  (refine hc_seq ?_; refine hc_lex ?_; refine hx_plain rfl ?_; refine h_assign rfl rfl rfl rfl ?_; refine hx_nil ?_; refine hq_then ?_; refine hc_seq ?_; refine hc_lex ?_; refine hx_plain rfl ?_)
  refine h_call rfl rfl rfl rfl rfl rfl rfl rfl EC.out .nil known_spec ?_
  rintro u M ⟨rfl, rfl⟩
  (refine hx_plain rfl ?_; refine h_assign rfl rfl rfl rfl ?_; refine hx_nil ?_; refine hq_then ?_; refine hc_seq ?_; refine hc_lex ?_; refine hx_plain rfl ?_)
  refine h_call rfl rfl rfl rfl rfl rfl rfl rfl EC.out .nil new_spec ?_
  rintro u M ⟨p, rfl, rfl⟩
  (refine hx_plain rfl ?_; refine h_assign rfl rfl rfl rfl ?_; refine hx_nil ?_; refine hq_then ?_; refine hc_seq ?_; refine hc_seq ?_; refine hc_lex ?_; refine hx_plain rfl ?_; refine h_move rfl rfl rfl rfl ?_; refine hx_plain rfl ?_; refine h_not rfl rfl rfl rfl ?_; refine hx_plain rfl ?_; refine h_move rfl rfl rfl rfl ?_; refine hx_yes rfl rfl rfl ?_; refine h_move rfl rfl rfl rfl ?_; refine hx_yes rfl rfl rfl ?_; refine h_eqNil rfl rfl rfl UC.out rfl rfl ?_; refine hx_plain rfl ?_; refine h_pickF rfl rfl rfl rfl rfl ?_; refine hx_nil ?_; refine hq_then ?_; refine hc_condF rfl ?_; refine hc_skip ?_; refine hq_then ?_; refine hc_seq ?_; refine hc_lex ?_; refine hx_plain rfl ?_; refine h_assign rfl rfl rfl rfl ?_; refine hx_nil ?_; refine hq_then ?_; refine hc_seq ?_; refine hc_lex ?_; refine hx_plain rfl ?_; refine h_assign rfl rfl rfl rfl ?_; refine hx_nil ?_; refine hq_then ?_; refine hc_seq ?_; refine hc_seq ?_; refine hc_lex ?_; refine hx_plain rfl ?_; refine h_assign rfl rfl rfl rfl ?_; refine hx_nil ?_; refine hq_then ?_; refine hc_block ?_)
  refine hc_cut (id := 0) (Y := NS × Value) (fun y => [(4, .pointer (some ⟨p, 0, none⟩)), (5, y.2)]) (fun y => [FlO y.2 y.1.l, NetO p y.1]) (fun y => FtS y.1 1000) ?_ ?_
  · refine hc_loop (X := Nat × NS × Value) (fun x => [(0, .slice a0 xs.length c0), (4, .pointer (some ⟨p, 0, none⟩)), (5, x.2.2), (6, .int .i64 x.2.1.given), (7, .int .i64 (x.1 : Int))]) (fun x => [FlO x.2.2 x.2.1.l, NetO p x.2.1]) (fun x => x.1 ≤ 1000 ∧ FtS x.2.1 x.1) (fun x => 1000 - x.1) (0, NS.new, .slice none 0 0) (.cons rfl (.cons rfl (.cons rfl (.cons rfl (.cons rfl .nil))))) ⟨Nat.zero_le _, NS.new_ok, Int.le_refl _, Nat.le_refl _, fun f hf => absurd hf List.not_mem_nil⟩ (fun _ h => FlO_nil h) ?_
    rintro ⟨i, s, v⟩ ⟨hi, hs⟩
    dsimp only at hi hs ⊢
    obtain ⟨j, hj⟩ : ∃ j : Int, ((i : Nat) : Int) = j := ⟨_, rfl⟩
    rw [hj]
    by_cases hlt : ¬ (i < xs.length ∧ i < 1000)
    · have hs2 : FtS s 1000 := ⟨hs.ok, by have := hs.giv; omega, by have := hs.len; omega, hs.dat⟩
      by_cases hlt1 : i < xs.length
      · have hi3 : ¬ j < 1000 := by omega
        (refine hc_seq ?_; refine hc_seq ?_; refine hc_lex ?_; refine hx_plain rfl ?_; refine h_move rfl rfl rfl rfl ?_; refine hx_plain rfl ?_; refine h_move rfl rfl rfl rfl ?_; refine hx_plain rfl ?_; refine h_len_slice rfl rfl rfl UC.out rfl rfl rfl ?_; refine hx_plain rfl ?_; refine h_cmp rfl rfl rfl rfl rfl rfl ?_; refine hx_plain rfl ?_; refine h_move rfl rfl rfl rfl ?_; refine hx_gT rfl rfl rfl (by omega) ?_; refine hx_yes rfl rfl rfl ?_; refine h_move rfl rfl rfl rfl ?_; refine hx_yes rfl rfl rfl ?_; refine h_cmp rfl rfl rfl rfl rfl rfl ?_; refine hx_plain rfl ?_; refine h_pickT rfl rfl rfl rfl rfl ?_; refine hx_nil ?_; refine hq_then ?_; refine hc_condDF rfl (by omega) ?_; refine hc_exit ?_; refine hq_exit_then ?_; refine hq_exit_then ?_)
        exact hq_cut (s, v) hs2 (.cons rfl (.cons rfl .nil)) (fun _ h => h)
      · (refine hc_seq ?_; refine hc_seq ?_; refine hc_lex ?_; refine hx_plain rfl ?_; refine h_move rfl rfl rfl rfl ?_; refine hx_plain rfl ?_; refine h_move rfl rfl rfl rfl ?_; refine hx_plain rfl ?_; refine h_len_slice rfl rfl rfl UC.out rfl rfl rfl ?_; refine hx_plain rfl ?_; refine h_cmp rfl rfl rfl rfl rfl rfl ?_; refine hx_plain rfl ?_; refine h_move rfl rfl rfl rfl ?_; refine hx_gF rfl rfl rfl (by omega) ?_; refine hx_skip rfl rfl rfl rfl rfl rfl ?_; refine hx_skip rfl rfl rfl rfl rfl rfl ?_; refine hx_plain rfl ?_; refine h_pickF rfl rfl rfl rfl rfl ?_; refine hx_nil ?_; refine hq_then ?_; refine hc_condF rfl ?_; refine hc_exit ?_; refine hq_exit_then ?_; refine hq_exit_then ?_)
        exact hq_cut (s, v) hs2 (.cons rfl (.cons rfl .nil)) (fun _ h => h)
    obtain ⟨hlt, hlt2⟩ := Classical.not_not.1 hlt
    have hxs : xs ≠ [] := by
      intro e
      rw [e] at hlt
      exact absurd hlt (Nat.not_lt_zero _)
    obtain ⟨g0, f0, rfl, r1⟩ := k0.resolve_left (by simpa using hxs)
    obtain ⟨⟨o, ds⟩, hq⟩ : ∃ q, xs[i]? = some q := ⟨_, List.getElem?_eq_getElem hlt⟩
    have e1 : (xs.map (·.1))[j.toNat]? = some o := by
      rw [List.getElem?_map, show j.toNat = i by omega]
      rw [hq]
      rfl
    obtain ⟨hqr, hql⟩ := hx _ (List.mem_iff_getElem?.2 ⟨i, hq⟩)
    dsimp only at hqr hql
    have hg := hs.giv
    have hg0 := hs.ok.g0
    have hl := hs.len
    refine hc_openP .head FlO_open ?_
    intro qs hqs
    refine hc_know (fun _ h => St.rowV_shapeS h .head) ?_
    rintro ⟨av, cv, rfl⟩
    have hqn : qs.length = s.l.length := by rw [← hqs, List.length_map]
    by_cases hA : ¬ (qs.length ≠ 0 ∧ 1 ≤ o.kind ∧ o.kind ≤ 4)
    ·
      -- <A>
      obtain ⟨hs2, hse, hsg, hsl⟩ := hs.send (by omega) j hql
      rcases (show qs.length = 0 ∨ (qs.length ≠ 0 ∧ o.kind < 1) ∨ (qs.length ≠ 0 ∧ ¬ o.kind < 1 ∧ o.kind > 4) by omega) with h1 | ⟨h1, h2⟩ | ⟨h1, h2, h3⟩
      ·
        (refine hc_seq ?_; refine hc_seq ?_; refine hc_lex ?_; refine hx_plain rfl ?_; refine h_move rfl rfl rfl rfl ?_; refine hx_plain rfl ?_; refine h_move rfl rfl rfl rfl ?_; refine hx_plain rfl ?_; refine h_len_slice rfl rfl rfl UC.out rfl rfl rfl ?_; refine hx_plain rfl ?_; refine h_cmp rfl rfl rfl rfl rfl rfl ?_; refine hx_plain rfl ?_; refine h_move rfl rfl rfl rfl ?_; refine hx_gT rfl rfl rfl (by omega) ?_; refine hx_yes rfl rfl rfl ?_; refine h_move rfl rfl rfl rfl ?_; refine hx_yes rfl rfl rfl ?_; refine h_cmp rfl rfl rfl rfl rfl rfl ?_; refine hx_plain rfl ?_; refine h_pickT rfl rfl rfl rfl rfl ?_; refine hx_nil ?_; refine hq_then ?_; refine hc_condDT rfl (by omega) ?_; refine hc_skip ?_; refine hq_then ?_; refine hc_seq ?_; refine hc_block ?_; refine hc_seq ?_; refine hc_lex ?_; refine hx_plain rfl ?_; refine h_move rfl rfl rfl rfl ?_; refine hx_plain rfl ?_; refine h_move rfl rfl rfl rfl ?_; refine hx_plain rfl ?_; refine h_indexAddr rfl rfl rfl UC.out IC.size (by omega) (by omega) rfl rfl ?_; refine hx_plain rfl ?_; refine h_rdLoadN rfl r1 rfl UC.out rfl IC.size (by with_reducible assumption) rfl rfl rfl ?_; refine hx_plain rfl ?_; (refine h_alloc rfl rfl IC.zero rfl rfl rfl (fun _ => ?_)); refine hx_plain rfl ?_; refine h_store rfl rfl rfl rfl rfl rfl IC.size .head rfl rfl (Nat.le_of_ble_eq_true rfl) (List.all_eq_true.1 rfl) ?_; refine hx_nil ?_; refine hq_then ?_; refine hc_seq ?_; refine hc_seq ?_; refine hc_lex ?_; refine hx_plain rfl ?_; refine h_move rfl rfl rfl rfl ?_; refine hx_plain rfl ?_; refine h_len_slice rfl rfl rfl UC.out rfl rfl rfl ?_; refine hx_plain rfl ?_; refine h_cmp rfl rfl rfl rfl rfl rfl ?_; refine hx_plain rfl ?_; refine h_move rfl rfl rfl rfl ?_; refine hx_gT rfl rfl rfl (by omega) ?_; refine hx_skip rfl rfl rfl rfl rfl rfl ?_; refine hx_skip rfl rfl rfl rfl rfl rfl ?_; refine hx_skip rfl rfl rfl rfl rfl rfl ?_; refine hx_plain rfl ?_; refine h_pickT rfl rfl rfl rfl rfl ?_; refine hx_plain rfl ?_; refine h_move rfl rfl rfl rfl ?_; refine hx_skip rfl rfl rfl rfl rfl rfl ?_; refine hx_skip rfl rfl rfl rfl rfl rfl ?_; refine hx_skip rfl rfl rfl rfl rfl rfl ?_; refine hx_plain rfl ?_; refine h_pickT rfl rfl rfl rfl rfl ?_; refine hx_nil ?_; refine hq_then ?_; refine hc_condT rfl ?_; refine hc_seq ?_; refine hc_lex ?_; refine hx_plain rfl ?_; refine h_move rfl rfl rfl rfl ?_; refine hx_plain rfl ?_; refine h_arithI rfl rfl rfl rfl (by omega) rfl rfl ?_; refine hx_plain rfl ?_; refine h_assign rfl rfl rfl rfl ?_; refine hx_nil ?_; refine hq_then ?_; refine hc_seq ?_; refine hc_lex ?_; refine hx_plain rfl ?_; refine h_move rfl rfl rfl rfl ?_; refine hx_plain rfl ?_; refine h_move rfl rfl rfl rfl ?_; refine hx_plain rfl ?_; refine h_fieldAddr0 rfl rfl FC.out rfl rfl ?_; refine hx_plain rfl ?_; refine h_load rfl rfl UC.out rfl .head rfl rfl rfl ?_; refine hx_plain rfl ?_; refine h_build rfl inferInstance rfl rfl rfl rfl ?_; refine hx_plain rfl ?_)
        refine h_callB hB hF rfl rfl rfl rfl rfl rfl rfl rfl EC.out (.cons (.tail (.tail (.tail .head))) .nil) (sendB (to := j) hs.ok (by omega) hqr (by omega)) ?_
        rintro u M ⟨rfl, rfl⟩
        rw [hse]
        (refine hx_plain rfl ?_; refine h_assign rfl rfl rfl rfl ?_; refine hx_nil ?_; refine hq_then ?_; refine hc_seq ?_; refine hc_seq ?_; refine hc_lex ?_; refine hx_plain rfl ?_; refine h_move rfl rfl rfl rfl ?_; refine hx_plain rfl ?_; refine h_move rfl rfl rfl rfl ?_; refine hx_plain rfl ?_; refine h_cmp rfl rfl rfl rfl rfl rfl ?_; refine hx_nil ?_; refine hq_then ?_; refine hc_condDF rfl (by omega) ?_; refine hc_skip ?_; refine hq_then ?_; refine hc_seq ?_; refine hc_lex ?_; refine hx_plain rfl ?_; refine h_move rfl rfl rfl rfl ?_; refine hx_plain rfl ?_; refine h_move rfl rfl rfl rfl ?_; refine hx_plain rfl ?_; refine h_move rfl rfl rfl rfl ?_; refine hx_plain rfl ?_; refine h_fieldAddr0 rfl rfl FC.out rfl rfl ?_; refine hx_plain rfl ?_; refine h_load rfl rfl UC.out rfl (.tail .head) rfl rfl rfl ?_; refine hx_plain rfl ?_)
        refine h_callW (post := fun u M => ∃ s : SlV, u = s.v ∧ M = [RowV byteE 5 s.v ds]) rfl rfl rfl rfl rfl rfl rfl rfl EC.out (fun w' h => (bytes_makes (h.rd hqr) (by omega)).slV) ?_
        rintro u M ⟨sl, rfl, rfl⟩
        (refine hx_plain rfl ?_; refine h_build rfl inferInstance rfl rfl rfl rfl ?_; refine hx_plain rfl ?_; (refine h_buildSlice rfl rfl rfl UC.out IC.size IC.zero rfl rfl (by intro v hv; simp at hv; first | (subst hv; rfl) | (rcases hv with rfl | rfl <;> rfl) | (rcases hv with rfl | rfl | rfl <;> rfl)) (by omega) rfl rfl (fun _ => ?_)); refine hx_plain rfl ?_)
        refine h_append (m := 1) (E := qfE) (T := 52) (xs := qs) (ys := [⟨⟨s.given + 1, j, ds⟩, sl⟩]) rfl rfl rfl rfl rfl UC.out IC.out rfl (.cons (.tail (.tail (.tail (.tail .head)))) (.cons .head .nil)) rfl (one_row qfE _) (by unfold maxLen; omega) (by omega) rfl rfl (fun v' _ => ?_)
        (refine hx_plain rfl ?_; refine h_assign rfl rfl rfl rfl ?_; refine hx_nil ?_; refine hq_then ?_; refine hc_exit ?_; refine hq_exit_then ?_; refine hq_exit_block ?_; refine hq_then ?_; refine hc_lex ?_; refine hx_plain rfl ?_; refine h_move rfl rfl rfl rfl ?_; refine hx_plain rfl ?_; refine h_arithI rfl rfl rfl rfl (by omega) rfl rfl ?_; refine hx_plain rfl ?_; refine h_assign rfl rfl rfl rfl ?_; refine hx_nil ?_)
        rw [show j + 1 = ((i + 1 : Nat) : Int) by omega, ← hsg]
        refine hq_round (i + 1, s.send j ds, v') (by show 1000 - (i + 1) < 1000 - i; omega) ⟨by show i + 1 ≤ 1000; omega, hs2⟩ (.cons rfl (.cons rfl (.cons rfl (.cons rfl (.cons rfl .nil))))) (fun w' h => ?_)
        rw [hsg] at h
        have h1 := rows_snoc (q := ⟨⟨s.given + 1, j, ds⟩, sl⟩) (h.sub (.cons (.tail (.tail (.tail (.tail (.tail .head))))) (.cons (.tail (.tail .head)) (.cons .head (.cons (.tail .head) .nil)))))
        exact FlO_shut (l := (s.send j ds).l) (qs := qs ++ [⟨⟨s.given + 1, j, ds⟩, sl⟩]) (by rw [List.map_append, hqs, hsl]; rfl) (h1.perm (List.Perm.swap _ _ _))
      ·
        (refine hc_seq ?_; refine hc_seq ?_; refine hc_lex ?_; refine hx_plain rfl ?_; refine h_move rfl rfl rfl rfl ?_; refine hx_plain rfl ?_; refine h_move rfl rfl rfl rfl ?_; refine hx_plain rfl ?_; refine h_len_slice rfl rfl rfl UC.out rfl rfl rfl ?_; refine hx_plain rfl ?_; refine h_cmp rfl rfl rfl rfl rfl rfl ?_; refine hx_plain rfl ?_; refine h_move rfl rfl rfl rfl ?_; refine hx_gT rfl rfl rfl (by omega) ?_; refine hx_yes rfl rfl rfl ?_; refine h_move rfl rfl rfl rfl ?_; refine hx_yes rfl rfl rfl ?_; refine h_cmp rfl rfl rfl rfl rfl rfl ?_; refine hx_plain rfl ?_; refine h_pickT rfl rfl rfl rfl rfl ?_; refine hx_nil ?_; refine hq_then ?_; refine hc_condDT rfl (by omega) ?_; refine hc_skip ?_; refine hq_then ?_; refine hc_seq ?_; refine hc_block ?_; refine hc_seq ?_; refine hc_lex ?_; refine hx_plain rfl ?_; refine h_move rfl rfl rfl rfl ?_; refine hx_plain rfl ?_; refine h_move rfl rfl rfl rfl ?_; refine hx_plain rfl ?_; refine h_indexAddr rfl rfl rfl UC.out IC.size (by omega) (by omega) rfl rfl ?_; refine hx_plain rfl ?_; refine h_rdLoadN rfl r1 rfl UC.out rfl IC.size (by with_reducible assumption) rfl rfl rfl ?_; refine hx_plain rfl ?_; (refine h_alloc rfl rfl IC.zero rfl rfl rfl (fun _ => ?_)); refine hx_plain rfl ?_; refine h_store rfl rfl rfl rfl rfl rfl IC.size .head rfl rfl (Nat.le_of_ble_eq_true rfl) (List.all_eq_true.1 rfl) ?_; refine hx_nil ?_; refine hq_then ?_; refine hc_seq ?_; refine hc_seq ?_; refine hc_lex ?_; refine hx_plain rfl ?_; refine h_move rfl rfl rfl rfl ?_; refine hx_plain rfl ?_; refine h_len_slice rfl rfl rfl UC.out rfl rfl rfl ?_; refine hx_plain rfl ?_; refine h_cmp rfl rfl rfl rfl rfl rfl ?_; refine hx_plain rfl ?_; refine h_move rfl rfl rfl rfl ?_; refine hx_gF rfl rfl rfl (by omega) ?_; refine hx_yes rfl rfl rfl ?_; refine h_fieldAddr0 rfl rfl FC.out rfl rfl ?_; refine hx_yes rfl rfl rfl ?_; refine h_load rfl rfl UC.out rfl .head rfl rfl rfl ?_; refine hx_yes rfl rfl rfl ?_; refine h_cmp rfl rfl rfl rfl rfl rfl ?_; refine hx_plain rfl ?_; refine h_pickF rfl rfl rfl rfl rfl ?_; refine hx_plain rfl ?_; refine h_move rfl rfl rfl rfl ?_; refine hx_gT rfl rfl rfl (by omega) ?_; refine hx_skip rfl rfl rfl rfl rfl rfl ?_; refine hx_skip rfl rfl rfl rfl rfl rfl ?_; refine hx_skip rfl rfl rfl rfl rfl rfl ?_; refine hx_plain rfl ?_; refine h_pickT rfl rfl rfl rfl rfl ?_; refine hx_nil ?_; refine hq_then ?_; refine hc_condT rfl ?_; refine hc_seq ?_; refine hc_lex ?_; refine hx_plain rfl ?_; refine h_move rfl rfl rfl rfl ?_; refine hx_plain rfl ?_; refine h_arithI rfl rfl rfl rfl (by omega) rfl rfl ?_; refine hx_plain rfl ?_; refine h_assign rfl rfl rfl rfl ?_; refine hx_nil ?_; refine hq_then ?_; refine hc_seq ?_; refine hc_lex ?_; refine hx_plain rfl ?_; refine h_move rfl rfl rfl rfl ?_; refine hx_plain rfl ?_; refine h_move rfl rfl rfl rfl ?_; refine hx_plain rfl ?_; refine h_fieldAddr0 rfl rfl FC.out rfl rfl ?_; refine hx_plain rfl ?_; refine h_load rfl rfl UC.out rfl .head rfl rfl rfl ?_; refine hx_plain rfl ?_; refine h_build rfl inferInstance rfl rfl rfl rfl ?_; refine hx_plain rfl ?_)
        refine h_callB hB hF rfl rfl rfl rfl rfl rfl rfl rfl EC.out (.cons (.tail (.tail (.tail .head))) .nil) (sendB (to := j) hs.ok (by omega) hqr (by omega)) ?_
        rintro u M ⟨rfl, rfl⟩
        rw [hse]
        (refine hx_plain rfl ?_; refine h_assign rfl rfl rfl rfl ?_; refine hx_nil ?_; refine hq_then ?_; refine hc_seq ?_; refine hc_seq ?_; refine hc_lex ?_; refine hx_plain rfl ?_; refine h_move rfl rfl rfl rfl ?_; refine hx_plain rfl ?_; refine h_move rfl rfl rfl rfl ?_; refine hx_plain rfl ?_; refine h_cmp rfl rfl rfl rfl rfl rfl ?_; refine hx_nil ?_; refine hq_then ?_; refine hc_condDF rfl (by omega) ?_; refine hc_skip ?_; refine hq_then ?_; refine hc_seq ?_; refine hc_lex ?_; refine hx_plain rfl ?_; refine h_move rfl rfl rfl rfl ?_; refine hx_plain rfl ?_; refine h_move rfl rfl rfl rfl ?_; refine hx_plain rfl ?_; refine h_move rfl rfl rfl rfl ?_; refine hx_plain rfl ?_; refine h_fieldAddr0 rfl rfl FC.out rfl rfl ?_; refine hx_plain rfl ?_; refine h_load rfl rfl UC.out rfl (.tail .head) rfl rfl rfl ?_; refine hx_plain rfl ?_)
        refine h_callW (post := fun u M => ∃ s : SlV, u = s.v ∧ M = [RowV byteE 5 s.v ds]) rfl rfl rfl rfl rfl rfl rfl rfl EC.out (fun w' h => (bytes_makes (h.rd hqr) (by omega)).slV) ?_
        rintro u M ⟨sl, rfl, rfl⟩
        (refine hx_plain rfl ?_; refine h_build rfl inferInstance rfl rfl rfl rfl ?_; refine hx_plain rfl ?_; (refine h_buildSlice rfl rfl rfl UC.out IC.size IC.zero rfl rfl (by intro v hv; simp at hv; first | (subst hv; rfl) | (rcases hv with rfl | rfl <;> rfl) | (rcases hv with rfl | rfl | rfl <;> rfl)) (by omega) rfl rfl (fun _ => ?_)); refine hx_plain rfl ?_)
        refine h_append (m := 1) (E := qfE) (T := 52) (xs := qs) (ys := [⟨⟨s.given + 1, j, ds⟩, sl⟩]) rfl rfl rfl rfl rfl UC.out IC.out rfl (.cons (.tail (.tail (.tail (.tail .head)))) (.cons .head .nil)) rfl (one_row qfE _) (by unfold maxLen; omega) (by omega) rfl rfl (fun v' _ => ?_)
        (refine hx_plain rfl ?_; refine h_assign rfl rfl rfl rfl ?_; refine hx_nil ?_; refine hq_then ?_; refine hc_exit ?_; refine hq_exit_then ?_; refine hq_exit_block ?_; refine hq_then ?_; refine hc_lex ?_; refine hx_plain rfl ?_; refine h_move rfl rfl rfl rfl ?_; refine hx_plain rfl ?_; refine h_arithI rfl rfl rfl rfl (by omega) rfl rfl ?_; refine hx_plain rfl ?_; refine h_assign rfl rfl rfl rfl ?_; refine hx_nil ?_)
        rw [show j + 1 = ((i + 1 : Nat) : Int) by omega, ← hsg]
        refine hq_round (i + 1, s.send j ds, v') (by show 1000 - (i + 1) < 1000 - i; omega) ⟨by show i + 1 ≤ 1000; omega, hs2⟩ (.cons rfl (.cons rfl (.cons rfl (.cons rfl (.cons rfl .nil))))) (fun w' h => ?_)
        rw [hsg] at h
        have h1 := rows_snoc (q := ⟨⟨s.given + 1, j, ds⟩, sl⟩) (h.sub (.cons (.tail (.tail (.tail (.tail (.tail .head))))) (.cons (.tail (.tail .head)) (.cons .head (.cons (.tail .head) .nil)))))
        exact FlO_shut (l := (s.send j ds).l) (qs := qs ++ [⟨⟨s.given + 1, j, ds⟩, sl⟩]) (by rw [List.map_append, hqs, hsl]; rfl) (h1.perm (List.Perm.swap _ _ _))
      ·
        (refine hc_seq ?_; refine hc_seq ?_; refine hc_lex ?_; refine hx_plain rfl ?_; refine h_move rfl rfl rfl rfl ?_; refine hx_plain rfl ?_; refine h_move rfl rfl rfl rfl ?_; refine hx_plain rfl ?_; refine h_len_slice rfl rfl rfl UC.out rfl rfl rfl ?_; refine hx_plain rfl ?_; refine h_cmp rfl rfl rfl rfl rfl rfl ?_; refine hx_plain rfl ?_; refine h_move rfl rfl rfl rfl ?_; refine hx_gT rfl rfl rfl (by omega) ?_; refine hx_yes rfl rfl rfl ?_; refine h_move rfl rfl rfl rfl ?_; refine hx_yes rfl rfl rfl ?_; refine h_cmp rfl rfl rfl rfl rfl rfl ?_; refine hx_plain rfl ?_; refine h_pickT rfl rfl rfl rfl rfl ?_; refine hx_nil ?_; refine hq_then ?_; refine hc_condDT rfl (by omega) ?_; refine hc_skip ?_; refine hq_then ?_; refine hc_seq ?_; refine hc_block ?_; refine hc_seq ?_; refine hc_lex ?_; refine hx_plain rfl ?_; refine h_move rfl rfl rfl rfl ?_; refine hx_plain rfl ?_; refine h_move rfl rfl rfl rfl ?_; refine hx_plain rfl ?_; refine h_indexAddr rfl rfl rfl UC.out IC.size (by omega) (by omega) rfl rfl ?_; refine hx_plain rfl ?_; refine h_rdLoadN rfl r1 rfl UC.out rfl IC.size (by with_reducible assumption) rfl rfl rfl ?_; refine hx_plain rfl ?_; (refine h_alloc rfl rfl IC.zero rfl rfl rfl (fun _ => ?_)); refine hx_plain rfl ?_; refine h_store rfl rfl rfl rfl rfl rfl IC.size .head rfl rfl (Nat.le_of_ble_eq_true rfl) (List.all_eq_true.1 rfl) ?_; refine hx_nil ?_; refine hq_then ?_; refine hc_seq ?_; refine hc_seq ?_; refine hc_lex ?_; refine hx_plain rfl ?_; refine h_move rfl rfl rfl rfl ?_; refine hx_plain rfl ?_; refine h_len_slice rfl rfl rfl UC.out rfl rfl rfl ?_; refine hx_plain rfl ?_; refine h_cmp rfl rfl rfl rfl rfl rfl ?_; refine hx_plain rfl ?_; refine h_move rfl rfl rfl rfl ?_; refine hx_gF rfl rfl rfl (by omega) ?_; refine hx_yes rfl rfl rfl ?_; refine h_fieldAddr0 rfl rfl FC.out rfl rfl ?_; refine hx_yes rfl rfl rfl ?_; refine h_load rfl rfl UC.out rfl .head rfl rfl rfl ?_; refine hx_yes rfl rfl rfl ?_; refine h_cmp rfl rfl rfl rfl rfl rfl ?_; refine hx_plain rfl ?_; refine h_pickF rfl rfl rfl rfl rfl ?_; refine hx_plain rfl ?_; refine h_move rfl rfl rfl rfl ?_; refine hx_gF rfl rfl rfl (by omega) ?_; refine hx_yes rfl rfl rfl ?_; refine h_fieldAddr0 rfl rfl FC.out rfl rfl ?_; refine hx_yes rfl rfl rfl ?_; refine h_load rfl rfl UC.out rfl .head rfl rfl rfl ?_; refine hx_yes rfl rfl rfl ?_; refine h_cmp rfl rfl rfl rfl rfl rfl ?_; refine hx_plain rfl ?_; refine h_pickF rfl rfl rfl rfl rfl ?_; refine hx_nil ?_; refine hq_then ?_; refine hc_condDT rfl (by omega) ?_; refine hc_seq ?_; refine hc_lex ?_; refine hx_plain rfl ?_; refine h_move rfl rfl rfl rfl ?_; refine hx_plain rfl ?_; refine h_arithI rfl rfl rfl rfl (by omega) rfl rfl ?_; refine hx_plain rfl ?_; refine h_assign rfl rfl rfl rfl ?_; refine hx_nil ?_; refine hq_then ?_; refine hc_seq ?_; refine hc_lex ?_; refine hx_plain rfl ?_; refine h_move rfl rfl rfl rfl ?_; refine hx_plain rfl ?_; refine h_move rfl rfl rfl rfl ?_; refine hx_plain rfl ?_; refine h_fieldAddr0 rfl rfl FC.out rfl rfl ?_; refine hx_plain rfl ?_; refine h_load rfl rfl UC.out rfl .head rfl rfl rfl ?_; refine hx_plain rfl ?_; refine h_build rfl inferInstance rfl rfl rfl rfl ?_; refine hx_plain rfl ?_)
        refine h_callB hB hF rfl rfl rfl rfl rfl rfl rfl rfl EC.out (.cons (.tail (.tail (.tail .head))) .nil) (sendB (to := j) hs.ok (by omega) hqr (by omega)) ?_
        rintro u M ⟨rfl, rfl⟩
        rw [hse]
        (refine hx_plain rfl ?_; refine h_assign rfl rfl rfl rfl ?_; refine hx_nil ?_; refine hq_then ?_; refine hc_seq ?_; refine hc_seq ?_; refine hc_lex ?_; refine hx_plain rfl ?_; refine h_move rfl rfl rfl rfl ?_; refine hx_plain rfl ?_; refine h_move rfl rfl rfl rfl ?_; refine hx_plain rfl ?_; refine h_cmp rfl rfl rfl rfl rfl rfl ?_; refine hx_nil ?_; refine hq_then ?_; refine hc_condDF rfl (by omega) ?_; refine hc_skip ?_; refine hq_then ?_; refine hc_seq ?_; refine hc_lex ?_; refine hx_plain rfl ?_; refine h_move rfl rfl rfl rfl ?_; refine hx_plain rfl ?_; refine h_move rfl rfl rfl rfl ?_; refine hx_plain rfl ?_; refine h_move rfl rfl rfl rfl ?_; refine hx_plain rfl ?_; refine h_fieldAddr0 rfl rfl FC.out rfl rfl ?_; refine hx_plain rfl ?_; refine h_load rfl rfl UC.out rfl (.tail .head) rfl rfl rfl ?_; refine hx_plain rfl ?_)
        refine h_callW (post := fun u M => ∃ s : SlV, u = s.v ∧ M = [RowV byteE 5 s.v ds]) rfl rfl rfl rfl rfl rfl rfl rfl EC.out (fun w' h => (bytes_makes (h.rd hqr) (by omega)).slV) ?_
        rintro u M ⟨sl, rfl, rfl⟩
        (refine hx_plain rfl ?_; refine h_build rfl inferInstance rfl rfl rfl rfl ?_; refine hx_plain rfl ?_; (refine h_buildSlice rfl rfl rfl UC.out IC.size IC.zero rfl rfl (by intro v hv; simp at hv; first | (subst hv; rfl) | (rcases hv with rfl | rfl <;> rfl) | (rcases hv with rfl | rfl | rfl <;> rfl)) (by omega) rfl rfl (fun _ => ?_)); refine hx_plain rfl ?_)
        refine h_append (m := 1) (E := qfE) (T := 52) (xs := qs) (ys := [⟨⟨s.given + 1, j, ds⟩, sl⟩]) rfl rfl rfl rfl rfl UC.out IC.out rfl (.cons (.tail (.tail (.tail (.tail .head)))) (.cons .head .nil)) rfl (one_row qfE _) (by unfold maxLen; omega) (by omega) rfl rfl (fun v' _ => ?_)
        (refine hx_plain rfl ?_; refine h_assign rfl rfl rfl rfl ?_; refine hx_nil ?_; refine hq_then ?_; refine hc_exit ?_; refine hq_exit_then ?_; refine hq_exit_block ?_; refine hq_then ?_; refine hc_lex ?_; refine hx_plain rfl ?_; refine h_move rfl rfl rfl rfl ?_; refine hx_plain rfl ?_; refine h_arithI rfl rfl rfl rfl (by omega) rfl rfl ?_; refine hx_plain rfl ?_; refine h_assign rfl rfl rfl rfl ?_; refine hx_nil ?_)
        rw [show j + 1 = ((i + 1 : Nat) : Int) by omega, ← hsg]
        refine hq_round (i + 1, s.send j ds, v') (by show 1000 - (i + 1) < 1000 - i; omega) ⟨by show i + 1 ≤ 1000; omega, hs2⟩ (.cons rfl (.cons rfl (.cons rfl (.cons rfl (.cons rfl .nil))))) (fun w' h => ?_)
        rw [hsg] at h
        have h1 := rows_snoc (q := ⟨⟨s.given + 1, j, ds⟩, sl⟩) (h.sub (.cons (.tail (.tail (.tail (.tail (.tail .head))))) (.cons (.tail (.tail .head)) (.cons .head (.cons (.tail .head) .nil)))))
        exact FlO_shut (l := (s.send j ds).l) (qs := qs ++ [⟨⟨s.given + 1, j, ds⟩, sl⟩]) (by rw [List.map_append, hqs, hsl]; rfl) (h1.perm (List.Perm.swap _ _ _))
      -- </A>
    rw [Classical.not_not] at hA
    obtain ⟨hA1, hA2, hA3⟩ := hA
    have hn0 : 0 < qs.length := by omega
    have htb := tmod_bounds o.k (qs.length : Int) (by omega)
    obtain ⟨k, hk⟩ : ∃ k : Nat, ((o.k.tmod (qs.length : Int) + (qs.length : Int)) % (qs.length : Int)) = (k : Int) := ⟨_, (Int.toNat_of_nonneg (Int.emod_nonneg _ (by omega))).symm⟩
    have hkn : k < qs.length := by
      have := Int.emod_lt_of_pos (o.k.tmod (qs.length : Int) + (qs.length : Int)) (show (0 : Int) < (qs.length : Int) by omega)
      omega
    obtain ⟨⟨f, sa, sn, sc⟩, hqk⟩ : ∃ q, qs[k]? = some q := ⟨_, List.getElem?_eq_getElem hkn⟩
    have hsk : s.l[k]? = some f := by rw [← hqs, List.getElem?_map, hqk]; rfl
    have hf : s.find f.no = some f := NS.find_at hs.ok hsk
    have hfd : f.data.length ≤ 140737488351232 := hs.dat f (List.mem_iff_getElem?.2 ⟨k, hsk⟩)
    refine hc_conv (C' := St w nowhere [rfL (.slice av qs.length cv) qs, QF.row ⟨f, sa, sn, sc⟩, netR (qs.eraseIdx k), NetO p s]) (fun _ h => (rows_erase hqk (h.perm (List.Perm.swap _ _ _))).pulls (.cons (.tail (.tail .head)) (.cons .head (.cons .head (.cons .head .nil))))) ?_
    refine hc_know (fun _ h => St.rowV_shapeS h (.tail .head)) ?_
    rintro ⟨a', c', e⟩
    injection e with _ e2 _
    dsimp only at e2
    subst e2
    refine hc_rowV .head ?_ ?_
    · intro _ e
      rw [e] at hkn
      exact absurd hkn (Nat.not_lt_zero _)
    rintro g cap e
    injection e with e1' e2 e3
    subst e1' e3
    have shut : ∀ {w' : World}, St w nowhere [NetO p s, Row qfE 52 g cv qs, QF.row ⟨f, sa, f.data.length, sc⟩, netR (qs.eraseIdx k)] w' → St w nowhere [FlO (.slice (some ⟨g, 0, none⟩) qs.length cv) s.l, NetO p s] w' := fun h => by
      have h1 := rows_back hqk (h.pulls (.cons (.tail (.tail .head)) (.cons (.tail (.tail .head)) (.cons (.tail .head) (.cons .head .nil)))))
      exact FlO_shut hqs ((h1.perm (List.Perm.swap _ _ _)).rowV_mk)
    (refine hc_seq ?_; refine hc_seq ?_; refine hc_lex ?_; refine hx_plain rfl ?_; refine h_move rfl rfl rfl rfl ?_; refine hx_plain rfl ?_; refine h_move rfl rfl rfl rfl ?_; refine hx_plain rfl ?_; refine h_len_slice rfl rfl rfl UC.out rfl rfl rfl ?_; refine hx_plain rfl ?_; refine h_cmp rfl rfl rfl rfl rfl rfl ?_; refine hx_plain rfl ?_; refine h_move rfl rfl rfl rfl ?_; refine hx_gT rfl rfl rfl (by omega) ?_; refine hx_yes rfl rfl rfl ?_; refine h_move rfl rfl rfl rfl ?_; refine hx_yes rfl rfl rfl ?_; refine h_cmp rfl rfl rfl rfl rfl rfl ?_; refine hx_plain rfl ?_; refine h_pickT rfl rfl rfl rfl rfl ?_; refine hx_nil ?_; refine hq_then ?_; refine hc_condDT rfl (by omega) ?_; refine hc_skip ?_; refine hq_then ?_; refine hc_seq ?_; refine hc_block ?_; refine hc_seq ?_; refine hc_lex ?_; refine hx_plain rfl ?_; refine h_move rfl rfl rfl rfl ?_; refine hx_plain rfl ?_; refine h_move rfl rfl rfl rfl ?_; refine hx_plain rfl ?_; refine h_indexAddr rfl rfl rfl UC.out IC.size (by omega) (by omega) rfl rfl ?_; refine hx_plain rfl ?_; refine h_rdLoadN rfl r1 rfl UC.out rfl IC.size (by with_reducible assumption) rfl rfl rfl ?_; refine hx_plain rfl ?_; (refine h_alloc rfl rfl IC.zero rfl rfl rfl (fun _ => ?_)); refine hx_plain rfl ?_; refine h_store rfl rfl rfl rfl rfl rfl IC.size .head rfl rfl (Nat.le_of_ble_eq_true rfl) (List.all_eq_true.1 rfl) ?_; refine hx_nil ?_; refine hq_then ?_; refine hc_seq ?_; refine hc_seq ?_; refine hc_lex ?_; refine hx_plain rfl ?_; refine h_move rfl rfl rfl rfl ?_; refine hx_plain rfl ?_; refine h_len_slice rfl rfl rfl UC.out rfl rfl rfl ?_; refine hx_plain rfl ?_; refine h_cmp rfl rfl rfl rfl rfl rfl ?_; refine hx_plain rfl ?_; refine h_move rfl rfl rfl rfl ?_; refine hx_gF rfl rfl rfl (by omega) ?_; refine hx_yes rfl rfl rfl ?_; refine h_fieldAddr0 rfl rfl FC.out rfl rfl ?_; refine hx_yes rfl rfl rfl ?_; refine h_load rfl rfl UC.out rfl .head rfl rfl rfl ?_; refine hx_yes rfl rfl rfl ?_; refine h_cmp rfl rfl rfl rfl rfl rfl ?_; refine hx_plain rfl ?_; refine h_pickF rfl rfl rfl rfl rfl ?_; refine hx_plain rfl ?_; refine h_move rfl rfl rfl rfl ?_; refine hx_gF rfl rfl rfl (by omega) ?_; refine hx_yes rfl rfl rfl ?_; refine h_fieldAddr0 rfl rfl FC.out rfl rfl ?_; refine hx_yes rfl rfl rfl ?_; refine h_load rfl rfl UC.out rfl .head rfl rfl rfl ?_; refine hx_yes rfl rfl rfl ?_; refine h_cmp rfl rfl rfl rfl rfl rfl ?_; refine hx_plain rfl ?_; refine h_pickF rfl rfl rfl rfl rfl ?_; refine hx_nil ?_; refine hq_then ?_; refine hc_condDF rfl (by omega) ?_; refine hc_skip ?_; refine hq_then ?_; refine hc_seq ?_; refine hc_lex ?_; refine hx_plain rfl ?_; refine h_fieldAddr0 rfl rfl FC.out rfl rfl ?_; refine hx_plain rfl ?_; refine h_load rfl rfl UC.out rfl .head rfl rfl rfl ?_; refine hx_plain rfl ?_; refine h_move rfl rfl rfl rfl ?_; refine hx_plain rfl ?_; refine h_len_slice rfl rfl rfl UC.out rfl rfl rfl ?_; refine hx_plain rfl ?_)
    refine h_rem rfl rfl rfl (by omega) rfl rfl ?_
    (refine hx_plain rfl ?_; refine h_move rfl rfl rfl rfl ?_; refine hx_plain rfl ?_; refine h_len_slice rfl rfl rfl UC.out rfl rfl rfl ?_; refine hx_plain rfl ?_; refine h_arithI rfl rfl rfl rfl (by omega) rfl rfl ?_; refine hx_plain rfl ?_; refine h_move rfl rfl rfl rfl ?_; refine hx_plain rfl ?_; refine h_len_slice rfl rfl rfl UC.out rfl rfl rfl ?_; refine hx_plain rfl ?_; refine h_remI rfl rfl rfl (by omega) rfl rfl ?_; refine hx_plain rfl ?_; refine h_assign rfl rfl rfl rfl ?_; refine hx_nil ?_; refine hq_then ?_; refine hc_seq ?_; refine hc_lex ?_; refine hx_plain rfl ?_; refine h_move rfl rfl rfl rfl ?_; refine hx_plain rfl ?_; refine h_move rfl rfl rfl rfl ?_; refine hx_plain rfl ?_; refine h_rowAddr rfl rfl rfl UC.out IC.size (by omega) (by omega) rfl rfl ?_; refine hx_plain rfl ?_)
    rw [hk]
    have e2 : qs[((k : Nat) : Int).toNat]? = some ⟨f, sa, f.data.length, sc⟩ := hqk
    rcases (show (o.kind = 1 ∨ o.kind = 2) ∨ o.kind = 3 ∨ o.kind = 4 by omega) with hk12 | hk3 | hk4
    ·
      -- <K12>
      rcases hk12 with hk1 | hk2
      focus
        (refine h_rowLoadN rfl (.tail .head) rfl UC.out rfl IC.size (by with_reducible assumption) rfl rfl rfl ?_; refine hx_plain rfl ?_; (refine h_alloc rfl rfl IC.zero rfl rfl rfl (fun _ => ?_)); refine hx_plain rfl ?_; refine h_store rfl rfl rfl rfl rfl rfl IC.size .head rfl rfl (Nat.le_of_ble_eq_true rfl) (List.all_eq_true.1 rfl) ?_; refine hx_nil ?_; refine hq_then ?_; refine hc_seq ?_; refine hc_lex ?_; refine hx_plain rfl ?_; refine h_fieldAddr0 rfl rfl FC.out rfl rfl ?_; refine hx_plain rfl ?_; refine h_load rfl rfl UC.out rfl (.tail .head) rfl rfl rfl ?_; refine hx_nil ?_; refine hq_then ?_; refine hc_block ?_; refine hc_seq ?_; refine hc_seq ?_; refine hc_lex ?_; refine hx_plain rfl ?_; refine h_cmp rfl rfl rfl rfl rfl rfl ?_; refine hx_plain rfl ?_; refine h_assign rfl rfl rfl rfl ?_; refine hx_nil ?_; refine hq_then ?_; refine hc_condDT rfl (by omega) ?_; refine hc_skip ?_; refine hq_then ?_; refine hc_condDT rfl (by omega) ?_; refine hc_seq ?_; refine hc_seq ?_; refine hc_lex ?_; refine hx_plain rfl ?_; refine h_fieldAddr0 rfl rfl FC.out rfl rfl ?_; refine hx_plain rfl ?_; refine h_load rfl rfl UC.out rfl (.tail .head) rfl rfl rfl ?_; refine hx_plain rfl ?_; refine h_cmp rfl rfl rfl rfl rfl rfl ?_; refine hx_nil ?_; refine hq_then ?_; refine hc_condDT rfl (by omega) ?_; refine hc_seq ?_; refine hc_lex ?_; refine hx_plain rfl ?_; refine h_move rfl rfl rfl rfl ?_; refine hx_plain rfl ?_; refine h_fieldAddr0 rfl rfl FC.out rfl rfl ?_; refine hx_plain rfl ?_; refine h_load rfl rfl UC.out rfl .head rfl rfl rfl ?_; refine hx_plain rfl ?_)
        refine h_call rfl rfl rfl rfl rfl rfl rfl rfl EC.out (.cons (.tail (.tail (.tail (.tail (.tail .head))))) .nil) (take_spec f.no hs.ok) ?_
        rintro u M (⟨hf2, _⟩ | ⟨f2, sl, hf2, rfl, rfl⟩)
        · rw [hf] at hf2; cases hf2
        rw [hf] at hf2
        injection hf2 with hf2
        subst hf2
        (refine hx_plain rfl ?_; refine h_move rfl rfl rfl rfl ?_; refine hx_plain rfl ?_; refine h_extract rfl rfl rfl rfl rfl ?_; refine hx_plain rfl ?_; refine h_extract rfl rfl rfl rfl rfl ?_; refine hx_plain rfl ?_; (refine h_alloc rfl rfl IC.zero rfl rfl rfl (fun _ => ?_)); refine hx_plain rfl ?_; refine h_store rfl rfl rfl rfl rfl rfl IC.size .head rfl rfl (Nat.le_of_ble_eq_true rfl) (List.all_eq_true.1 rfl) ?_; refine hx_plain rfl ?_; refine h_assign rfl rfl rfl rfl ?_; refine hx_nil ?_; refine hq_then ?_; refine hc_seq ?_; refine hc_lex ?_; refine hx_plain rfl ?_; refine h_fieldAddr0 rfl rfl FC.out rfl rfl ?_; refine hx_plain rfl ?_; refine h_load rfl rfl UC.out rfl .head rfl rfl rfl ?_; refine hx_plain rfl ?_; refine h_fieldAddr0 rfl rfl FC.out rfl rfl ?_; refine hx_plain rfl ?_; refine h_load rfl rfl UC.out rfl (.tail (.tail (.tail .head))) rfl rfl rfl ?_; refine hx_plain rfl ?_)
        refine h_callRd rfl rfl rfl rfl rfl rfl EC.out (fun w' h => sameBytes (h.rdRowV (.tail .head)) (St.rdRowV (v := .slice sa f.data.length sc) (xs := f.data) h (.tail (.tail (.tail (.tail (.tail (.tail .head)))))))) ?_
        rw [show decide (f.data = f.data) = true from decide_eq_true rfl]
        (refine hx_plain rfl ?_; refine h_assign rfl rfl rfl rfl ?_; refine hx_nil ?_; refine hq_then ?_; refine hc_seq ?_; refine hc_lex ?_; refine hx_plain rfl ?_; refine h_move rfl rfl rfl rfl ?_; refine hx_plain rfl ?_)
        refine h_callR rfl rfl rfl rfl rfl rfl EC.out ((num_spec _).reads _) ?_
        (refine hx_plain rfl ?_; refine h_cmp rfl rfl rfl rfl rfl rfl ?_; refine hx_plain rfl ?_; refine h_move rfl rfl rfl rfl ?_; refine hx_yes rfl rfl rfl ?_; refine h_fieldAddr0 rfl rfl FC.out rfl rfl ?_; refine hx_yes rfl rfl rfl ?_; refine h_load rfl rfl UC.out rfl .head rfl rfl rfl ?_; refine hx_yes rfl rfl rfl ?_; refine h_fieldAddr0 rfl rfl FC.out rfl rfl ?_; refine hx_yes rfl rfl rfl ?_; refine h_load rfl rfl UC.out rfl (.tail (.tail (.tail .head))) rfl rfl rfl ?_; refine hx_yes rfl rfl rfl ?_; refine h_cmp rfl rfl rfl rfl rfl rfl ?_; refine hx_plain rfl ?_; refine h_pickF rfl rfl rfl rfl rfl ?_; refine hx_plain rfl ?_; refine h_move rfl rfl rfl rfl ?_; refine hx_gcaseD rfl rfl rfl (fun hc => ?_) (fun hc => ?_); refine hx_skip rfl rfl rfl rfl rfl rfl ?_; refine hx_skip rfl rfl rfl rfl rfl rfl ?_; refine hx_plain rfl ?_; refine h_pickT rfl rfl rfl rfl rfl ?_; refine hx_nil ?_; refine hq_then ?_; refine hc_condT rfl ?_; refine hc_seq ?_; refine hc_lex ?_; refine hx_plain rfl ?_; refine h_assign rfl rfl rfl rfl ?_; refine hx_nil ?_; refine hq_then ?_; refine hc_ret ?_; refine hq_ret_then ?_; refine hq_ret_block ?_; refine hq_ret_block ?_; refine hq_ret_then ?_; refine hq_ret_then ?_; refine hq_cut_ret ?_; refine hq_ret_block ?_; refine hq_ret_then ?_; rotate_left; refine hx_yes rfl rfl rfl ?_; refine h_move rfl rfl rfl rfl ?_; refine hx_yes rfl rfl rfl ?_; refine h_not rfl rfl rfl rfl ?_; refine hx_plain rfl ?_; refine h_pickF rfl rfl rfl rfl rfl ?_; refine hx_nil ?_; refine hq_then ?_; refine hc_condF rfl ?_; refine hc_skip ?_; refine hq_then ?_; refine hc_seq ?_; refine hc_lex ?_; refine hx_plain rfl ?_; refine h_assign rfl rfl rfl rfl ?_; refine hx_nil ?_; refine hq_then ?_; refine hc_seq ?_; refine hc_seq ?_; refine hc_lex ?_; refine hx_plain rfl ?_; refine h_assign rfl rfl rfl rfl ?_; refine hx_nil ?_; refine hq_then ?_; refine hc_block ?_; rotate_left)
        · rename_i hc
          exact absurd rfl hc
        rename_i b11 b12
        refine hc_st (C' := St w nowhere [Row qfE 52 g cv qs, NetO p (s.del f.no), netR (qs.eraseIdx k), Blk b11 (.cells #[.int .i64 f.no, .int .i64 f.to, .slice sa f.data.length sc] 52 (0, 0))]) (fun _ h => h.sub (.cons (.tail (.tail (.tail (.tail (.tail .head))))) (.cons (.tail (.tail .head)) (.cons (.tail (.tail (.tail (.tail (.tail .head))))) (.cons (.tail (.tail .head)) .nil))))) ?_
      rotate_left
      focus
        (refine h_rowLoadN rfl (.tail .head) rfl UC.out rfl IC.size (by with_reducible assumption) rfl rfl rfl ?_; refine hx_plain rfl ?_; (refine h_alloc rfl rfl IC.zero rfl rfl rfl (fun _ => ?_)); refine hx_plain rfl ?_; refine h_store rfl rfl rfl rfl rfl rfl IC.size .head rfl rfl (Nat.le_of_ble_eq_true rfl) (List.all_eq_true.1 rfl) ?_; refine hx_nil ?_; refine hq_then ?_; refine hc_seq ?_; refine hc_lex ?_; refine hx_plain rfl ?_; refine h_fieldAddr0 rfl rfl FC.out rfl rfl ?_; refine hx_plain rfl ?_; refine h_load rfl rfl UC.out rfl (.tail .head) rfl rfl rfl ?_; refine hx_nil ?_; refine hq_then ?_; refine hc_block ?_; refine hc_seq ?_; refine hc_seq ?_; refine hc_lex ?_; refine hx_plain rfl ?_; refine h_cmp rfl rfl rfl rfl rfl rfl ?_; refine hx_plain rfl ?_; refine h_assign rfl rfl rfl rfl ?_; refine hx_nil ?_; refine hq_then ?_; refine hc_condDF rfl (by omega) ?_; refine hc_lex ?_; refine hx_plain rfl ?_; refine h_cmp rfl rfl rfl rfl rfl rfl ?_; refine hx_plain rfl ?_; refine h_assign rfl rfl rfl rfl ?_; refine hx_nil ?_; refine hq_then ?_; refine hc_condDT rfl (by omega) ?_; refine hc_seq ?_; refine hc_seq ?_; refine hc_lex ?_; refine hx_plain rfl ?_; refine h_fieldAddr0 rfl rfl FC.out rfl rfl ?_; refine hx_plain rfl ?_; refine h_load rfl rfl UC.out rfl (.tail .head) rfl rfl rfl ?_; refine hx_plain rfl ?_; refine h_cmp rfl rfl rfl rfl rfl rfl ?_; refine hx_nil ?_; refine hq_then ?_; refine hc_condDF rfl (by omega) ?_; refine hc_seq ?_; refine hc_lex ?_; refine hx_plain rfl ?_; refine h_move rfl rfl rfl rfl ?_; refine hx_plain rfl ?_; refine h_fieldAddr0 rfl rfl FC.out rfl rfl ?_; refine hx_plain rfl ?_; refine h_load rfl rfl UC.out rfl .head rfl rfl rfl ?_; refine hx_plain rfl ?_)
        refine h_call rfl rfl rfl rfl rfl rfl rfl rfl EC.out (.cons (.tail (.tail (.tail (.tail (.tail .head))))) .nil) (drop_spec f.no hs.ok) ?_
        rintro u M ⟨rfl, rfl⟩
        rw [NS.errOf_some hf]
        (refine hx_plain rfl ?_; refine h_assign rfl rfl rfl rfl ?_; refine hx_nil ?_; refine hq_then ?_; refine hc_seq ?_; refine hc_lex ?_; refine hx_plain rfl ?_; refine h_move rfl rfl rfl rfl ?_; refine hx_plain rfl ?_)
        refine h_callR rfl rfl rfl rfl rfl rfl EC.out ((num_spec _).reads _) ?_
        (refine hx_plain rfl ?_; refine h_cmp rfl rfl rfl rfl rfl rfl ?_; refine hx_nil ?_; refine hq_then ?_; refine hc_condF rfl ?_; refine hc_skip ?_; refine hq_then ?_; refine hc_seq ?_; refine hc_lex ?_; refine hx_plain rfl ?_; refine h_assign rfl rfl rfl rfl ?_; refine hx_nil ?_; refine hq_then ?_; refine hc_seq ?_; refine hc_seq ?_; refine hc_lex ?_; refine hx_plain rfl ?_; refine h_assign rfl rfl rfl rfl ?_; refine hx_nil ?_; refine hq_then ?_; refine hc_block ?_)
        rename_i b11
        refine hc_st (C' := St w nowhere [Row qfE 52 g cv qs, NetO p (s.del f.no), netR (qs.eraseIdx k), Blk b11 (.cells #[.int .i64 f.no, .int .i64 f.to, .slice sa f.data.length sc] 52 (0, 0))]) (fun _ h => h.sub (.cons (.tail (.tail (.tail .head))) (.cons .head (.cons (.tail (.tail (.tail .head))) (.cons .head .nil))))) ?_
      ·
        refine hc_cut (id := 3) (Y := Value) (fun y => [(0, .slice (some ⟨g0, f0, none⟩) xs.length c0), (4, .pointer (some ⟨p, 0, none⟩)), (6, .int .i64 s.given), (7, .int .i64 j), (11, .pointer (some ⟨b11, 0, none⟩)), (16, y)]) (fun y => [rfL y (qs.eraseIdx k), netR (qs.eraseIdx k), NetO p (s.del f.no), Blk b11 (.cells #[.int .i64 f.no, .int .i64 f.to, .slice sa f.data.length sc] 52 (0, 0))]) (fun _ => True) ?_ ?_
        · refine hc_loop (X := Nat × Value) (fun x => [(0, .slice (some ⟨g0, f0, none⟩) xs.length c0), (4, .pointer (some ⟨p, 0, none⟩)), (5, .slice (some ⟨g, 0, none⟩) qs.length cv), (6, .int .i64 s.given), (7, .int .i64 j), (10, .int .i64 (k : Int)), (11, .pointer (some ⟨b11, 0, none⟩)), (16, x.2), (17, .int .i64 (x.1 : Int))]) (fun x => [rfL x.2 ((qs.take x.1).eraseIdx k), Row qfE 52 g cv qs, netR (qs.eraseIdx k), NetO p (s.del f.no), Blk b11 (.cells #[.int .i64 f.no, .int .i64 f.to, .slice sa f.data.length sc] 52 (0, 0))]) (fun x => x.1 ≤ qs.length) (fun x => qs.length - x.1) (0, .slice none 0 0) (.cons rfl (.cons rfl (.cons rfl (.cons rfl (.cons rfl (.cons rfl (.cons rfl (.cons rfl (.cons rfl .nil))))))))) (Nat.zero_le _) (fun w' h => ?_) ?_
          · have h2 : St w nowhere (Row qfE 52 g cv qs :: netR (qs.eraseIdx k) :: NetO p (s.del f.no) :: Blk b11 (.cells #[.int .i64 f.no, .int .i64 f.to, .slice sa f.data.length sc] 52 (0, 0)) :: []) w' := h.sub (.cons .head (.cons (.tail .head) (.cons .head (.cons .head .nil))))
            exact h2.rowV_nil
          rintro ⟨i2, v2⟩ hi2
          dsimp only at hi2 ⊢
          by_cases hlt3 : i2 < qs.length
          · have e4 : qs[((i2 : Nat) : Int).toNat]? = some qs[i2] := List.getElem?_eq_getElem hlt3
            have hel : ((qs.take i2).eraseIdx k).length ≤ 1000 := Nat.le_trans (List.length_eraseIdx_le _ _) (by rw [List.length_take]; omega)
            obtain ⟨q2, hq2⟩ : ∃ q2, qs[i2] = q2 := ⟨_, rfl⟩
            rw [hq2] at e4
            by_cases hik : i2 = k
            · subst hik
              (refine hc_seq ?_; refine hc_seq ?_; refine hc_lex ?_; refine hx_plain rfl ?_; refine h_move rfl rfl rfl rfl ?_; refine hx_plain rfl ?_; refine h_move rfl rfl rfl rfl ?_; refine hx_plain rfl ?_; refine h_len_slice rfl rfl rfl UC.out rfl rfl rfl ?_; refine hx_plain rfl ?_; refine h_cmp rfl rfl rfl rfl rfl rfl ?_; refine hx_nil ?_; refine hq_then ?_; refine hc_condDT rfl (by omega) ?_; refine hc_skip ?_; refine hq_then ?_; refine hc_seq ?_; refine hc_block ?_; refine hc_seq ?_; refine hc_lex ?_; refine hx_plain rfl ?_; refine h_move rfl rfl rfl rfl ?_; refine hx_plain rfl ?_; refine h_move rfl rfl rfl rfl ?_; refine hx_plain rfl ?_; refine h_cmp rfl rfl rfl rfl rfl rfl ?_; refine hx_nil ?_; refine hq_then ?_; refine hc_condDF rfl (by omega) ?_; refine hc_skip ?_; refine hq_norm_block ?_; refine hq_then ?_; refine hc_lex ?_; refine hx_plain rfl ?_; refine h_move rfl rfl rfl rfl ?_; refine hx_plain rfl ?_; refine h_arithI rfl rfl rfl rfl (by omega) rfl rfl ?_; refine hx_plain rfl ?_; refine h_assign rfl rfl rfl rfl ?_; refine hx_nil ?_)
              refine hq_round (i2 + 1, v2) (by show qs.length - (i2 + 1) < qs.length - i2; omega) (by show i2 + 1 ≤ qs.length; omega) (.cons rfl (.cons rfl (.cons rfl (.cons rfl (.cons rfl (.cons rfl (.cons rfl (.cons rfl (.cons rfl .nil))))))))) (fun w' h => ?_)
              show St w nowhere [rfL v2 ((qs.take (i2 + 1)).eraseIdx i2), _, _, _, _] w'
              rw [take_erase_eq hlt3]
              exact h
            · have hik2 : ((i2 : Nat) : Int) ≠ (k : Int) := by omega
              (refine hc_seq ?_; refine hc_seq ?_; refine hc_lex ?_; refine hx_plain rfl ?_; refine h_move rfl rfl rfl rfl ?_; refine hx_plain rfl ?_; refine h_move rfl rfl rfl rfl ?_; refine hx_plain rfl ?_; refine h_len_slice rfl rfl rfl UC.out rfl rfl rfl ?_; refine hx_plain rfl ?_; refine h_cmp rfl rfl rfl rfl rfl rfl ?_; refine hx_nil ?_; refine hq_then ?_; refine hc_condDT rfl (by omega) ?_; refine hc_skip ?_; refine hq_then ?_; refine hc_seq ?_; refine hc_block ?_; refine hc_seq ?_; refine hc_lex ?_; refine hx_plain rfl ?_; refine h_move rfl rfl rfl rfl ?_; refine hx_plain rfl ?_; refine h_move rfl rfl rfl rfl ?_; refine hx_plain rfl ?_; refine h_cmp rfl rfl rfl rfl rfl rfl ?_; refine hx_nil ?_; refine hq_then ?_; refine hc_condDT rfl (by omega) ?_; refine hc_lex ?_; refine hx_plain rfl ?_; refine h_move rfl rfl rfl rfl ?_; refine hx_plain rfl ?_; refine h_move rfl rfl rfl rfl ?_; refine hx_plain rfl ?_; refine h_move rfl rfl rfl rfl ?_; refine hx_plain rfl ?_; refine h_rowAddr rfl rfl rfl UC.out IC.size (by omega) (by omega) rfl rfl ?_; refine hx_plain rfl ?_; refine h_rowLoadN rfl (.tail .head) rfl UC.out rfl IC.size (by with_reducible assumption) rfl rfl rfl ?_; refine hx_plain rfl ?_; (refine h_buildSlice rfl rfl rfl UC.out IC.size IC.zero rfl rfl (by intro v hv; simp at hv; first | (subst hv; rfl) | (rcases hv with rfl | rfl <;> rfl) | (rcases hv with rfl | rfl | rfl <;> rfl)) (by omega) rfl rfl (fun _ => ?_)); refine hx_plain rfl ?_)
              refine h_append (m := 1) (E := qfE) (T := 52) (xs := (qs.take i2).eraseIdx k) (ys := [q2]) rfl rfl rfl rfl rfl UC.out IC.out rfl (.cons (.tail .head) (.cons .head .nil)) rfl (one_row qfE _) (by unfold maxLen; omega) (by omega) rfl rfl (fun v' _ => ?_)
              (refine hx_plain rfl ?_; refine h_assign rfl rfl rfl rfl ?_; refine hx_nil ?_; refine hq_norm_block ?_; refine hq_then ?_; refine hc_lex ?_; refine hx_plain rfl ?_; refine h_move rfl rfl rfl rfl ?_; refine hx_plain rfl ?_; refine h_arithI rfl rfl rfl rfl (by omega) rfl rfl ?_; refine hx_plain rfl ?_; refine h_assign rfl rfl rfl rfl ?_; refine hx_nil ?_)
              refine hq_round (i2 + 1, v') (by show qs.length - (i2 + 1) < qs.length - i2; omega) (by show i2 + 1 ≤ qs.length; omega) (.cons rfl (.cons rfl (.cons rfl (.cons rfl (.cons rfl (.cons rfl (.cons rfl (.cons rfl (.cons rfl .nil))))))))) (fun w' h => ?_)
              show St w nowhere [rfL v' ((qs.take (i2 + 1)).eraseIdx k), _, _, _, _] w'
              rw [take_erase_ne hlt3 hik, hq2]
              exact h.sub (.cons .head (.cons (.tail .head) (.cons (.tail .head) (.cons (.tail .head) (.cons (.tail .head) .nil)))))
          · obtain rfl : i2 = qs.length := by omega
            rw [List.take_length]
            (refine hc_seq ?_; refine hc_seq ?_; refine hc_lex ?_; refine hx_plain rfl ?_; refine h_move rfl rfl rfl rfl ?_; refine hx_plain rfl ?_; refine h_move rfl rfl rfl rfl ?_; refine hx_plain rfl ?_; refine h_len_slice rfl rfl rfl UC.out rfl rfl rfl ?_; refine hx_plain rfl ?_; refine h_cmp rfl rfl rfl rfl rfl rfl ?_; refine hx_nil ?_; refine hq_then ?_; refine hc_condDF rfl (by omega) ?_; refine hc_exit ?_; refine hq_exit_then ?_; refine hq_exit_then ?_)
            exact hq_cut v2 trivial (.cons rfl (.cons rfl (.cons rfl (.cons rfl (.cons rfl (.cons rfl .nil)))))) (fun w' h => h.sub (.cons .head (.cons (.tail .head) (.cons (.tail .head) (.cons (.tail .head) .nil)))))
        · rintro v2 _
          have hf3 : (s.del f.no).find f.no = none := find_del_self
          (refine hq_exit_block ?_; refine hq_then ?_; refine hc_seq ?_; refine hc_lex ?_; refine hx_plain rfl ?_; refine h_move rfl rfl rfl rfl ?_; refine hx_plain rfl ?_; refine h_assign rfl rfl rfl rfl ?_; refine hx_nil ?_; refine hq_then ?_; refine hc_seq ?_; refine hc_lex ?_; refine hx_plain rfl ?_; refine h_move rfl rfl rfl rfl ?_; refine hx_plain rfl ?_; refine h_fieldAddr0 rfl rfl FC.out rfl rfl ?_; refine hx_plain rfl ?_; refine h_load rfl rfl UC.out rfl (.tail (.tail (.tail .head))) rfl rfl rfl ?_; refine hx_plain rfl ?_)
          refine h_call rfl rfl rfl rfl rfl rfl rfl rfl EC.out (.cons (.tail (.tail .head)) .nil) (drop_spec f.no (NS.del_ok hs.ok f.no)) ?_
          rintro u M ⟨rfl, rfl⟩
          rw [NS.errOf_none hf3, NS.del_none hf3]
          (refine hx_plain rfl ?_; refine h_assign rfl rfl rfl rfl ?_; refine hx_nil ?_; refine hq_then ?_; refine hc_seq ?_; refine hc_lex ?_; refine hx_plain rfl ?_; refine h_move rfl rfl rfl rfl ?_; refine hx_plain rfl ?_)
          refine h_callR rfl rfl rfl rfl rfl rfl EC.out ((num_spec _).reads _) ?_
          (refine hx_plain rfl ?_; refine h_cmp rfl rfl rfl rfl rfl rfl ?_; refine hx_nil ?_; refine hq_then ?_; refine hc_condF rfl ?_; refine hc_skip ?_; refine hq_norm_block ?_; refine hq_norm_block ?_; refine hq_then ?_; refine hc_lex ?_; refine hx_plain rfl ?_; refine h_move rfl rfl rfl rfl ?_; refine hx_plain rfl ?_; refine h_arithI rfl rfl rfl rfl (by omega) rfl rfl ?_; refine hx_plain rfl ?_; refine h_assign rfl rfl rfl rfl ?_; refine hx_nil ?_)
          rw [show j + 1 = ((i + 1 : Nat) : Int) by omega]
          refine hq_round (i + 1, s.del f.no, v2) (by show 1000 - (i + 1) < 1000 - i; omega) ⟨by show i + 1 ≤ 1000; omega, hs.del f.no⟩ (.cons rfl (.cons rfl (.cons rfl (.cons rfl (.cons rfl .nil))))) (fun w' h => ?_)
          exact FlO_shut (l := (s.del f.no).l) (qs := qs.eraseIdx k) (by rw [eraseIdx_map', hqs, NS.del_at hs.ok hsk]) (h.sub (.cons (.tail .head) (.cons (.tail .head) (.cons .head .nil))))
      ·
        refine hc_cut (id := 3) (Y := Value) (fun y => [(0, .slice (some ⟨g0, f0, none⟩) xs.length c0), (4, .pointer (some ⟨p, 0, none⟩)), (6, .int .i64 s.given), (7, .int .i64 j), (11, .pointer (some ⟨b11, 0, none⟩)), (16, y)]) (fun y => [rfL y (qs.eraseIdx k), netR (qs.eraseIdx k), NetO p (s.del f.no), Blk b11 (.cells #[.int .i64 f.no, .int .i64 f.to, .slice sa f.data.length sc] 52 (0, 0))]) (fun _ => True) ?_ ?_
        · refine hc_loop (X := Nat × Value) (fun x => [(0, .slice (some ⟨g0, f0, none⟩) xs.length c0), (4, .pointer (some ⟨p, 0, none⟩)), (5, .slice (some ⟨g, 0, none⟩) qs.length cv), (6, .int .i64 s.given), (7, .int .i64 j), (10, .int .i64 (k : Int)), (11, .pointer (some ⟨b11, 0, none⟩)), (16, x.2), (17, .int .i64 (x.1 : Int))]) (fun x => [rfL x.2 ((qs.take x.1).eraseIdx k), Row qfE 52 g cv qs, netR (qs.eraseIdx k), NetO p (s.del f.no), Blk b11 (.cells #[.int .i64 f.no, .int .i64 f.to, .slice sa f.data.length sc] 52 (0, 0))]) (fun x => x.1 ≤ qs.length) (fun x => qs.length - x.1) (0, .slice none 0 0) (.cons rfl (.cons rfl (.cons rfl (.cons rfl (.cons rfl (.cons rfl (.cons rfl (.cons rfl (.cons rfl .nil))))))))) (Nat.zero_le _) (fun w' h => ?_) ?_
          · have h2 : St w nowhere (Row qfE 52 g cv qs :: netR (qs.eraseIdx k) :: NetO p (s.del f.no) :: Blk b11 (.cells #[.int .i64 f.no, .int .i64 f.to, .slice sa f.data.length sc] 52 (0, 0)) :: []) w' := h.sub (.cons .head (.cons (.tail .head) (.cons .head (.cons .head .nil))))
            exact h2.rowV_nil
          rintro ⟨i2, v2⟩ hi2
          dsimp only at hi2 ⊢
          by_cases hlt3 : i2 < qs.length
          · have e4 : qs[((i2 : Nat) : Int).toNat]? = some qs[i2] := List.getElem?_eq_getElem hlt3
            have hel : ((qs.take i2).eraseIdx k).length ≤ 1000 := Nat.le_trans (List.length_eraseIdx_le _ _) (by rw [List.length_take]; omega)
            obtain ⟨q2, hq2⟩ : ∃ q2, qs[i2] = q2 := ⟨_, rfl⟩
            rw [hq2] at e4
            by_cases hik : i2 = k
            · subst hik
              (refine hc_seq ?_; refine hc_seq ?_; refine hc_lex ?_; refine hx_plain rfl ?_; refine h_move rfl rfl rfl rfl ?_; refine hx_plain rfl ?_; refine h_move rfl rfl rfl rfl ?_; refine hx_plain rfl ?_; refine h_len_slice rfl rfl rfl UC.out rfl rfl rfl ?_; refine hx_plain rfl ?_; refine h_cmp rfl rfl rfl rfl rfl rfl ?_; refine hx_nil ?_; refine hq_then ?_; refine hc_condDT rfl (by omega) ?_; refine hc_skip ?_; refine hq_then ?_; refine hc_seq ?_; refine hc_block ?_; refine hc_seq ?_; refine hc_lex ?_; refine hx_plain rfl ?_; refine h_move rfl rfl rfl rfl ?_; refine hx_plain rfl ?_; refine h_move rfl rfl rfl rfl ?_; refine hx_plain rfl ?_; refine h_cmp rfl rfl rfl rfl rfl rfl ?_; refine hx_nil ?_; refine hq_then ?_; refine hc_condDF rfl (by omega) ?_; refine hc_skip ?_; refine hq_norm_block ?_; refine hq_then ?_; refine hc_lex ?_; refine hx_plain rfl ?_; refine h_move rfl rfl rfl rfl ?_; refine hx_plain rfl ?_; refine h_arithI rfl rfl rfl rfl (by omega) rfl rfl ?_; refine hx_plain rfl ?_; refine h_assign rfl rfl rfl rfl ?_; refine hx_nil ?_)
              refine hq_round (i2 + 1, v2) (by show qs.length - (i2 + 1) < qs.length - i2; omega) (by show i2 + 1 ≤ qs.length; omega) (.cons rfl (.cons rfl (.cons rfl (.cons rfl (.cons rfl (.cons rfl (.cons rfl (.cons rfl (.cons rfl .nil))))))))) (fun w' h => ?_)
              show St w nowhere [rfL v2 ((qs.take (i2 + 1)).eraseIdx i2), _, _, _, _] w'
              rw [take_erase_eq hlt3]
              exact h
            · have hik2 : ((i2 : Nat) : Int) ≠ (k : Int) := by omega
              (refine hc_seq ?_; refine hc_seq ?_; refine hc_lex ?_; refine hx_plain rfl ?_; refine h_move rfl rfl rfl rfl ?_; refine hx_plain rfl ?_; refine h_move rfl rfl rfl rfl ?_; refine hx_plain rfl ?_; refine h_len_slice rfl rfl rfl UC.out rfl rfl rfl ?_; refine hx_plain rfl ?_; refine h_cmp rfl rfl rfl rfl rfl rfl ?_; refine hx_nil ?_; refine hq_then ?_; refine hc_condDT rfl (by omega) ?_; refine hc_skip ?_; refine hq_then ?_; refine hc_seq ?_; refine hc_block ?_; refine hc_seq ?_; refine hc_lex ?_; refine hx_plain rfl ?_; refine h_move rfl rfl rfl rfl ?_; refine hx_plain rfl ?_; refine h_move rfl rfl rfl rfl ?_; refine hx_plain rfl ?_; refine h_cmp rfl rfl rfl rfl rfl rfl ?_; refine hx_nil ?_; refine hq_then ?_; refine hc_condDT rfl (by omega) ?_; refine hc_lex ?_; refine hx_plain rfl ?_; refine h_move rfl rfl rfl rfl ?_; refine hx_plain rfl ?_; refine h_move rfl rfl rfl rfl ?_; refine hx_plain rfl ?_; refine h_move rfl rfl rfl rfl ?_; refine hx_plain rfl ?_; refine h_rowAddr rfl rfl rfl UC.out IC.size (by omega) (by omega) rfl rfl ?_; refine hx_plain rfl ?_; refine h_rowLoadN rfl (.tail .head) rfl UC.out rfl IC.size (by with_reducible assumption) rfl rfl rfl ?_; refine hx_plain rfl ?_; (refine h_buildSlice rfl rfl rfl UC.out IC.size IC.zero rfl rfl (by intro v hv; simp at hv; first | (subst hv; rfl) | (rcases hv with rfl | rfl <;> rfl) | (rcases hv with rfl | rfl | rfl <;> rfl)) (by omega) rfl rfl (fun _ => ?_)); refine hx_plain rfl ?_)
              refine h_append (m := 1) (E := qfE) (T := 52) (xs := (qs.take i2).eraseIdx k) (ys := [q2]) rfl rfl rfl rfl rfl UC.out IC.out rfl (.cons (.tail .head) (.cons .head .nil)) rfl (one_row qfE _) (by unfold maxLen; omega) (by omega) rfl rfl (fun v' _ => ?_)
              (refine hx_plain rfl ?_; refine h_assign rfl rfl rfl rfl ?_; refine hx_nil ?_; refine hq_norm_block ?_; refine hq_then ?_; refine hc_lex ?_; refine hx_plain rfl ?_; refine h_move rfl rfl rfl rfl ?_; refine hx_plain rfl ?_; refine h_arithI rfl rfl rfl rfl (by omega) rfl rfl ?_; refine hx_plain rfl ?_; refine h_assign rfl rfl rfl rfl ?_; refine hx_nil ?_)
              refine hq_round (i2 + 1, v') (by show qs.length - (i2 + 1) < qs.length - i2; omega) (by show i2 + 1 ≤ qs.length; omega) (.cons rfl (.cons rfl (.cons rfl (.cons rfl (.cons rfl (.cons rfl (.cons rfl (.cons rfl (.cons rfl .nil))))))))) (fun w' h => ?_)
              show St w nowhere [rfL v' ((qs.take (i2 + 1)).eraseIdx k), _, _, _, _] w'
              rw [take_erase_ne hlt3 hik, hq2]
              exact h.sub (.cons .head (.cons (.tail .head) (.cons (.tail .head) (.cons (.tail .head) (.cons (.tail .head) .nil)))))
          · obtain rfl : i2 = qs.length := by omega
            rw [List.take_length]
            (refine hc_seq ?_; refine hc_seq ?_; refine hc_lex ?_; refine hx_plain rfl ?_; refine h_move rfl rfl rfl rfl ?_; refine hx_plain rfl ?_; refine h_move rfl rfl rfl rfl ?_; refine hx_plain rfl ?_; refine h_len_slice rfl rfl rfl UC.out rfl rfl rfl ?_; refine hx_plain rfl ?_; refine h_cmp rfl rfl rfl rfl rfl rfl ?_; refine hx_nil ?_; refine hq_then ?_; refine hc_condDF rfl (by omega) ?_; refine hc_exit ?_; refine hq_exit_then ?_; refine hq_exit_then ?_)
            exact hq_cut v2 trivial (.cons rfl (.cons rfl (.cons rfl (.cons rfl (.cons rfl (.cons rfl .nil)))))) (fun w' h => h.sub (.cons .head (.cons (.tail .head) (.cons (.tail .head) (.cons (.tail .head) .nil)))))
        · rintro v2 _
          have hf3 : (s.del f.no).find f.no = none := find_del_self
          (refine hq_exit_block ?_; refine hq_then ?_; refine hc_seq ?_; refine hc_lex ?_; refine hx_plain rfl ?_; refine h_move rfl rfl rfl rfl ?_; refine hx_plain rfl ?_; refine h_assign rfl rfl rfl rfl ?_; refine hx_nil ?_; refine hq_then ?_; refine hc_seq ?_; refine hc_lex ?_; refine hx_plain rfl ?_; refine h_move rfl rfl rfl rfl ?_; refine hx_plain rfl ?_; refine h_fieldAddr0 rfl rfl FC.out rfl rfl ?_; refine hx_plain rfl ?_; refine h_load rfl rfl UC.out rfl (.tail (.tail (.tail .head))) rfl rfl rfl ?_; refine hx_plain rfl ?_)
          refine h_call rfl rfl rfl rfl rfl rfl rfl rfl EC.out (.cons (.tail (.tail .head)) .nil) (drop_spec f.no (NS.del_ok hs.ok f.no)) ?_
          rintro u M ⟨rfl, rfl⟩
          rw [NS.errOf_none hf3, NS.del_none hf3]
          (refine hx_plain rfl ?_; refine h_assign rfl rfl rfl rfl ?_; refine hx_nil ?_; refine hq_then ?_; refine hc_seq ?_; refine hc_lex ?_; refine hx_plain rfl ?_; refine h_move rfl rfl rfl rfl ?_; refine hx_plain rfl ?_)
          refine h_callR rfl rfl rfl rfl rfl rfl EC.out ((num_spec _).reads _) ?_
          (refine hx_plain rfl ?_; refine h_cmp rfl rfl rfl rfl rfl rfl ?_; refine hx_nil ?_; refine hq_then ?_; refine hc_condF rfl ?_; refine hc_skip ?_; refine hq_norm_block ?_; refine hq_norm_block ?_; refine hq_then ?_; refine hc_lex ?_; refine hx_plain rfl ?_; refine h_move rfl rfl rfl rfl ?_; refine hx_plain rfl ?_; refine h_arithI rfl rfl rfl rfl (by omega) rfl rfl ?_; refine hx_plain rfl ?_; refine h_assign rfl rfl rfl rfl ?_; refine hx_nil ?_)
          rw [show j + 1 = ((i + 1 : Nat) : Int) by omega]
          refine hq_round (i + 1, s.del f.no, v2) (by show 1000 - (i + 1) < 1000 - i; omega) ⟨by show i + 1 ≤ 1000; omega, hs.del f.no⟩ (.cons rfl (.cons rfl (.cons rfl (.cons rfl (.cons rfl .nil))))) (fun w' h => ?_)
          exact FlO_shut (l := (s.del f.no).l) (qs := qs.eraseIdx k) (by rw [eraseIdx_map', hqs, NS.del_at hs.ok hsk]) (h.sub (.cons (.tail .head) (.cons (.tail .head) (.cons .head .nil))))
      -- </K12>
    ·
      -- <K3>
      (refine h_rowLoadN rfl (.tail .head) rfl UC.out rfl IC.size (by with_reducible assumption) rfl rfl rfl ?_; refine hx_plain rfl ?_; (refine h_alloc rfl rfl IC.zero rfl rfl rfl (fun _ => ?_)); refine hx_plain rfl ?_; refine h_store rfl rfl rfl rfl rfl rfl IC.size .head rfl rfl (Nat.le_of_ble_eq_true rfl) (List.all_eq_true.1 rfl) ?_; refine hx_nil ?_; refine hq_then ?_; refine hc_seq ?_; refine hc_lex ?_; refine hx_plain rfl ?_; refine h_fieldAddr0 rfl rfl FC.out rfl rfl ?_; refine hx_plain rfl ?_; refine h_load rfl rfl UC.out rfl (.tail .head) rfl rfl rfl ?_; refine hx_nil ?_; refine hq_then ?_; refine hc_block ?_; refine hc_seq ?_; refine hc_seq ?_; refine hc_lex ?_; refine hx_plain rfl ?_; refine h_cmp rfl rfl rfl rfl rfl rfl ?_; refine hx_plain rfl ?_; refine h_assign rfl rfl rfl rfl ?_; refine hx_nil ?_; refine hq_then ?_; refine hc_condDF rfl (by omega) ?_; refine hc_lex ?_; refine hx_plain rfl ?_; refine h_cmp rfl rfl rfl rfl rfl rfl ?_; refine hx_plain rfl ?_; refine h_assign rfl rfl rfl rfl ?_; refine hx_nil ?_; refine hq_then ?_; refine hc_condDF rfl (by omega) ?_; refine hc_seq ?_; refine hc_lex ?_; refine hx_plain rfl ?_; refine h_cmp rfl rfl rfl rfl rfl rfl ?_; refine hx_plain rfl ?_; refine h_assign rfl rfl rfl rfl ?_; refine hx_nil ?_; refine hq_then ?_; refine hc_condDT rfl (by omega) ?_; refine hc_seq ?_; refine hc_seq ?_; refine hc_lex ?_; refine hx_plain rfl ?_; refine h_fieldAddr0 rfl rfl FC.out rfl rfl ?_; refine hx_plain rfl ?_; refine h_load rfl rfl UC.out rfl .head rfl rfl rfl ?_; refine hx_plain rfl ?_; refine h_len_slice rfl rfl rfl UC.out rfl rfl rfl ?_; refine hx_plain rfl ?_; refine h_cmp rfl rfl rfl rfl rfl rfl ?_; refine hx_nil ?_; refine hq_then ?_; refine hc_condD rfl (fun hc => ?_) (fun hc => ?_); refine hc_exit ?_; refine hq_exit_then ?_; (refine hq_exit_other ?_ ?_; exact rfl); refine hq_exit_block ?_; refine hq_then ?_; refine hc_lex ?_; refine hx_plain rfl ?_; refine h_move rfl rfl rfl rfl ?_; refine hx_plain rfl ?_; refine h_arithI rfl rfl rfl rfl (by omega) rfl rfl ?_; refine hx_plain rfl ?_; refine h_assign rfl rfl rfl rfl ?_; refine hx_nil ?_; rotate_left; refine hc_skip ?_; refine hq_then ?_; refine hc_seq ?_; refine hc_lex ?_; refine hx_plain rfl ?_; refine h_move rfl rfl rfl rfl ?_; refine hx_plain rfl ?_; refine h_arithI rfl rfl rfl rfl (by omega) rfl rfl ?_; refine hx_plain rfl ?_; refine h_assign rfl rfl rfl rfl ?_; refine hx_nil ?_; refine hq_then ?_; refine hc_seq ?_; refine hc_lex ?_; refine hx_plain rfl ?_; refine h_move rfl rfl rfl rfl ?_; refine hx_plain rfl ?_; refine h_fieldAddr0 rfl rfl FC.out rfl rfl ?_; refine hx_plain rfl ?_; refine h_load rfl rfl UC.out rfl .head rfl rfl rfl ?_; refine hx_plain rfl ?_; rotate_left)
      · rw [show j + 1 = ((i + 1 : Nat) : Int) by omega]
        refine hq_round (i + 1, s, .slice (some ⟨g, 0, none⟩) qs.length cv) (by show 1000 - (i + 1) < 1000 - i; omega) ⟨by show i + 1 ≤ 1000; omega, hs.next⟩ (.cons rfl (.cons rfl (.cons rfl (.cons rfl (.cons rfl .nil))))) (fun w' h => ?_)
        exact shut (h.sub (.cons (.tail (.tail (.tail (.tail (.tail .head))))) (.cons (.tail (.tail .head)) (.cons (.tail (.tail .head)) (.cons (.tail (.tail .head)) .nil)))))
      rename_i b11
      refine h_call rfl rfl rfl rfl rfl rfl rfl rfl EC.out (.cons (.tail (.tail (.tail (.tail (.tail .head))))) .nil) (copy_spec f.no hs.ok (by omega) (fun f hf => by have := hs.dat f hf; omega)) ?_
      rintro u M ⟨rfl, rfl⟩
      rw [NS.errOf_some hf, show s.copied f.no = s.sent by unfold NS.copied; rw [hf], show s.copy f.no = s.send f.to f.data by unfold NS.copy; rw [hf]]
      obtain ⟨hs2, hse, hsg, hsl⟩ := hs.send (by omega) f.to hfd
      rw [hse]
      (refine hx_plain rfl ?_; refine h_move rfl rfl rfl rfl ?_; refine hx_plain rfl ?_; refine h_extract rfl rfl rfl rfl rfl ?_; refine hx_plain rfl ?_; refine h_extract rfl rfl rfl rfl rfl ?_; refine hx_plain rfl ?_; refine h_assign rfl rfl rfl rfl ?_; refine hx_plain rfl ?_; refine h_assign rfl rfl rfl rfl ?_; refine hx_nil ?_; refine hq_then ?_; refine hc_seq ?_; refine hc_seq ?_; refine hc_lex ?_; refine hx_plain rfl ?_; refine h_move rfl rfl rfl rfl ?_; refine hx_plain rfl ?_)
      refine h_callR rfl rfl rfl rfl rfl rfl EC.out ((num_spec _).reads _) ?_
      (refine hx_plain rfl ?_; refine h_cmp rfl rfl rfl rfl rfl rfl ?_; refine hx_plain rfl ?_; refine h_move rfl rfl rfl rfl ?_; refine hx_yes rfl rfl rfl ?_; refine h_move rfl rfl rfl rfl ?_; refine hx_yes rfl rfl rfl ?_; refine h_move rfl rfl rfl rfl ?_; refine hx_yes rfl rfl rfl ?_; refine h_cmp rfl rfl rfl rfl rfl rfl ?_; refine hx_plain rfl ?_; refine h_pickF rfl rfl rfl rfl rfl ?_; refine hx_nil ?_; refine hq_then ?_; refine hc_condDF rfl (by omega) ?_; refine hc_skip ?_; refine hq_then ?_)
      refine hc_st (C' := St w nowhere [rfL (.slice (some ⟨g, 0, none⟩) qs.length cv) qs, NetO p (s.send f.to f.data), Blk b11 (.cells #[.int .i64 f.no, .int .i64 f.to, .slice sa f.data.length sc] 52 (0, 0)), QF.row ⟨f, sa, f.data.length, sc⟩, netR (qs.eraseIdx k)]) (fun _ h => (h.sub (.cons (.tail (.tail (.tail .head))) (.cons .head (.cons .head (.cons (.tail .head) (.cons (.tail .head) .nil)))))).rowV_mk) ?_
      refine hc_drawO [0, 1, 2, 3, 4, 5, 6, 7, 8, 9, 10] (fun i => Nat.beq i 6 || Nat.beq i 8) (by kernel_rfl) (by kernel_rfl) rfl ?_
      (refine hx_plain rfl ?_; refine h_move rfl rfl rfl rfl ?_; refine hx_plain rfl ?_; refine h_move rfl rfl rfl rfl ?_; refine hx_plain rfl ?_; refine h_fieldAddr0 rfl rfl FC.out rfl rfl ?_; refine hx_plain rfl ?_; refine h_load rfl rfl UC.out rfl (.tail (.tail .head)) rfl rfl rfl ?_; refine hx_plain rfl ?_; refine h_fieldAddr0 rfl rfl FC.out rfl rfl ?_; refine hx_plain rfl ?_; refine h_load rfl rfl UC.out rfl (.tail (.tail .head)) rfl rfl rfl ?_; refine hx_plain rfl ?_)
      refine h_callWk (post := fun u M => ∃ s : SlV, u = s.v ∧ M = [RowV byteE 5 s.v f.data]) rfl rfl rfl rfl rfl rfl rfl EC.out (fun w' h => (bytes_makes (St.rdRowV (v := .slice sa f.data.length sc) (xs := f.data) h (.tail (.tail (.tail .head)))) (by omega)).slV) ?_
      rintro u M ⟨sl, rfl, rfl⟩
      (refine hx_plain rfl ?_; refine h_build rfl inferInstance rfl rfl rfl rfl ?_; refine hx_plain rfl ?_)
      refine h_buildSliceW rfl rfl UC.out IC.size IC.zero rfl rfl (by intro v hv; simp at hv; subst hv; rfl) (by omega) rfl rfl (fun b2 => ?_)
      (refine hx_plain rfl ?_)
      refine h_append (m := 1) (E := qfE) (T := 52) (xs := qs) (ys := [⟨⟨s.given + 1, f.to, f.data⟩, sl⟩]) rfl rfl rfl rfl rfl UC.out IC.out rfl (.cons (.tail (.tail .head)) (.cons .head .nil)) rfl (one_row qfE _) (by unfold maxLen; omega) (by omega) rfl rfl (fun v' _ => ?_)
      (refine hx_plain rfl ?_; refine h_assign rfl rfl rfl rfl ?_; refine hx_nil ?_; refine hq_norm_block ?_; refine hq_norm_block ?_; refine hq_then ?_; refine hc_lex ?_; refine hx_plain rfl ?_; refine h_move rfl rfl rfl rfl ?_; refine hx_plain rfl ?_; refine h_arithI rfl rfl rfl rfl (by omega) rfl rfl ?_; refine hx_plain rfl ?_; refine h_assign rfl rfl rfl rfl ?_; refine hx_nil ?_)
      rw [show j + 1 = ((i + 1 : Nat) : Int) by omega, ← hsg]
      refine hq_round (i + 1, s.send f.to f.data, v') (by show 1000 - (i + 1) < 1000 - i; omega) ⟨by show i + 1 ≤ 1000; omega, hs2⟩ (.cons rfl (.cons rfl (.cons rfl (.cons rfl (.cons rfl .nil))))) (fun w' h => ?_)
      rw [hsg] at h
      have h1 := rows_back hqk (h.sub (.cons (.tail (.tail (.tail (.tail (.tail .head))))) (.cons (.tail (.tail (.tail (.tail (.tail .head))))) (.cons (.tail (.tail .head)) (.cons .head (.cons (.tail .head) .nil))))))
      have h2 := rows_snoc (q := ⟨⟨s.given + 1, f.to, f.data⟩, sl⟩) h1
      exact FlO_shut (l := (s.send f.to f.data).l) (qs := qs ++ [⟨⟨s.given + 1, f.to, f.data⟩, sl⟩]) (by rw [List.map_append, hqs, hsl]; rfl) (h2.perm (List.Perm.swap _ _ _))
      -- </K3>
    ·
      -- <K4>
      (refine h_rowLoadN rfl (.tail .head) rfl UC.out rfl IC.size (by with_reducible assumption) rfl rfl rfl ?_; refine hx_plain rfl ?_; (refine h_alloc rfl rfl IC.zero rfl rfl rfl (fun _ => ?_)); refine hx_plain rfl ?_; refine h_store rfl rfl rfl rfl rfl rfl IC.size .head rfl rfl (Nat.le_of_ble_eq_true rfl) (List.all_eq_true.1 rfl) ?_; refine hx_nil ?_; refine hq_then ?_; refine hc_seq ?_; refine hc_lex ?_; refine hx_plain rfl ?_; refine h_fieldAddr0 rfl rfl FC.out rfl rfl ?_; refine hx_plain rfl ?_; refine h_load rfl rfl UC.out rfl (.tail .head) rfl rfl rfl ?_; refine hx_nil ?_; refine hq_then ?_; refine hc_block ?_; refine hc_seq ?_; refine hc_seq ?_; refine hc_lex ?_; refine hx_plain rfl ?_; refine h_cmp rfl rfl rfl rfl rfl rfl ?_; refine hx_plain rfl ?_; refine h_assign rfl rfl rfl rfl ?_; refine hx_nil ?_; refine hq_then ?_; refine hc_condDF rfl (by omega) ?_; refine hc_lex ?_; refine hx_plain rfl ?_; refine h_cmp rfl rfl rfl rfl rfl rfl ?_; refine hx_plain rfl ?_; refine h_assign rfl rfl rfl rfl ?_; refine hx_nil ?_; refine hq_then ?_; refine hc_condDF rfl (by omega) ?_; refine hc_seq ?_; refine hc_lex ?_; refine hx_plain rfl ?_; refine h_cmp rfl rfl rfl rfl rfl rfl ?_; refine hx_plain rfl ?_; refine h_assign rfl rfl rfl rfl ?_; refine hx_nil ?_; refine hq_then ?_; refine hc_condDF rfl (by omega) ?_; refine hc_seq ?_; refine hc_lex ?_; refine hx_plain rfl ?_; refine h_cmp rfl rfl rfl rfl rfl rfl ?_; refine hx_plain rfl ?_; refine h_assign rfl rfl rfl rfl ?_; refine hx_nil ?_; refine hq_then ?_; refine hc_condDT rfl (by omega) ?_; refine hc_seq ?_; refine hc_seq ?_; refine hc_lex ?_; refine hx_plain rfl ?_; refine h_fieldAddr0 rfl rfl FC.out rfl rfl ?_; refine hx_plain rfl ?_; refine h_load rfl rfl UC.out rfl .head rfl rfl rfl ?_; refine hx_plain rfl ?_; refine h_len_slice rfl rfl rfl UC.out rfl rfl rfl ?_; refine hx_plain rfl ?_; refine h_cmp rfl rfl rfl rfl rfl rfl ?_; refine hx_nil ?_; refine hq_then ?_; refine hc_condD rfl (fun hc => ?_) (fun hc => ?_); refine hc_exit ?_; refine hq_exit_then ?_; (refine hq_exit_other ?_ ?_; exact rfl); refine hq_exit_block ?_; refine hq_then ?_; refine hc_lex ?_; refine hx_plain rfl ?_; refine h_move rfl rfl rfl rfl ?_; refine hx_plain rfl ?_; refine h_arithI rfl rfl rfl rfl (by omega) rfl rfl ?_; refine hx_plain rfl ?_; refine h_assign rfl rfl rfl rfl ?_; refine hx_nil ?_; rotate_left; refine hc_skip ?_; refine hq_then ?_; refine hc_seq ?_; rotate_left)
      · rw [show j + 1 = ((i + 1 : Nat) : Int) by omega]
        refine hq_round (i + 1, s, .slice (some ⟨g, 0, none⟩) qs.length cv) (by show 1000 - (i + 1) < 1000 - i; omega) ⟨by show i + 1 ≤ 1000; omega, hs.next⟩ (.cons rfl (.cons rfl (.cons rfl (.cons rfl (.cons rfl .nil))))) (fun w' h => ?_)
        exact shut (h.sub (.cons (.tail (.tail (.tail (.tail (.tail .head))))) (.cons (.tail (.tail .head)) (.cons (.tail (.tail .head)) (.cons (.tail (.tail .head)) .nil)))))
      rename_i b11
      dsimp only at hc
      have htb2 := tmod_bounds o.at_ (f.data.length : Int) (by omega)
      have htb3 := tmod_bounds o.v 255 (by decide)
      obtain ⟨a, ha⟩ : ∃ a : Int, ((o.at_.tmod (f.data.length : Int) + (f.data.length : Int)) % (f.data.length : Int)) = a := ⟨_, rfl⟩
      have ha0 : 0 ≤ a := by rw [← ha]; exact Int.emod_nonneg _ hc
      have ha1 : a < (f.data.length : Int) := by rw [← ha]; exact Int.emod_lt_of_pos _ (by omega)
      refine hc_st (C' := St w nowhere [Blk b11 (.cells #[.int .i64 f.no, .int .i64 f.to, .slice sa f.data.length sc] 52 (0, 0)), _, _, _, _, _]) (fun _ h => h) ?_
      refine hc_rowV (v := .slice sa f.data.length sc) (xs := f.data) (.tail (.tail (.tail .head))) ?_ ?_
      · intro _ e
        rw [e] at hc
        exact absurd rfl hc
      rintro gd capd e
      injection e with e3 e4 e5
      subst e3 e5
      obtain ⟨x0, hx0⟩ : ∃ x, f.data[a.toNat]? = some x := ⟨_, List.getElem?_eq_getElem (by omega)⟩
      have hat : ¬ (a < 0 ∨ (f.data.length : Int) ≤ a) := by omega
      refine hc_draw0 (by kernel_rfl) (by kernel_rfl) ?_
      (refine hx_plain rfl ?_; refine h_fieldAddr0 rfl rfl FC.out rfl rfl ?_; refine hx_plain rfl ?_; refine h_load rfl rfl UC.out rfl (.tail (.tail .head)) rfl rfl rfl ?_; refine hx_plain rfl ?_; refine h_fieldAddr0 rfl rfl FC.out rfl rfl ?_; refine hx_plain rfl ?_; refine h_load rfl rfl UC.out rfl (.tail .head) rfl rfl rfl ?_; refine hx_plain rfl ?_; refine h_len_slice rfl rfl rfl UC.out rfl rfl rfl ?_; refine hx_plain rfl ?_)
      refine h_rem rfl rfl rfl hc rfl rfl ?_
      (refine hx_plain rfl ?_; refine h_fieldAddr0 rfl rfl FC.out rfl rfl ?_; refine hx_plain rfl ?_; refine h_load rfl rfl UC.out rfl (.tail .head) rfl rfl rfl ?_; refine hx_plain rfl ?_; refine h_len_slice rfl rfl rfl UC.out rfl rfl rfl ?_; refine hx_plain rfl ?_; refine h_arithI rfl rfl rfl rfl (by omega) rfl rfl ?_; refine hx_plain rfl ?_; refine h_fieldAddr0 rfl rfl FC.out rfl rfl ?_; refine hx_plain rfl ?_; refine h_load rfl rfl UC.out rfl (.tail .head) rfl rfl rfl ?_; refine hx_plain rfl ?_; refine h_len_slice rfl rfl rfl UC.out rfl rfl rfl ?_; refine hx_plain rfl ?_; refine h_remI rfl rfl rfl (by omega) rfl rfl ?_; refine hx_plain rfl ?_; refine h_assign rfl rfl rfl rfl ?_; refine hx_nil ?_; refine hq_then ?_; refine hc_seq ?_; refine hc_lex ?_; refine hx_plain rfl ?_; refine h_fieldAddr0 rfl rfl FC.out rfl rfl ?_; refine hx_plain rfl ?_; refine h_load rfl rfl UC.out rfl (.tail (.tail .head)) rfl rfl rfl ?_; refine hx_plain rfl ?_)
      rw [ha]
      skip
      refine h_rem rfl rfl rfl (by decide) rfl rfl ?_
      (refine hx_plain rfl ?_; refine h_arithI rfl rfl rfl rfl (by omega) rfl rfl ?_; refine hx_plain rfl ?_; refine h_remI rfl rfl rfl (by omega) rfl rfl ?_; refine hx_plain rfl ?_; refine h_arithI rfl rfl rfl rfl (by omega) rfl rfl ?_; refine hx_plain rfl ?_; refine h_assign rfl rfl rfl rfl ?_; refine hx_nil ?_; refine hq_then ?_; refine hc_seq ?_; refine hc_lex ?_; refine hx_plain rfl ?_; refine h_move rfl rfl rfl rfl ?_; refine hx_plain rfl ?_; refine h_fieldAddr0 rfl rfl FC.out rfl rfl ?_; refine hx_plain rfl ?_; refine h_load rfl rfl UC.out rfl (.tail .head) rfl rfl rfl ?_; refine hx_plain rfl ?_; refine h_move rfl rfl rfl rfl ?_; refine hx_plain rfl ?_; refine h_move rfl rfl rfl rfl ?_; refine hx_plain rfl ?_)
      obtain ⟨vv, hvv⟩ : ∃ vv : Int, 1 + (o.v.tmod 255 + 255) % 255 = vv := ⟨_, rfl⟩
      have hv : ¬ (vv < 1 ∨ 255 < vv) := by omega
      rw [hvv]
      skip
      refine h_call rfl rfl rfl rfl rfl rfl rfl rfl EC.out (.cons (.tail (.tail (.tail (.tail (.tail .head))))) .nil) (flip_spec f.no a vv hs.ok) ?_
      rintro u M ⟨rfl, rfl⟩
      rw [show s.flipE f.no a vv = 0 by unfold NS.flipE; rw [hf]; exact flipE_ok hat hv, show s.flip f.no a vv = s.upd f.no (flipD f.data a vv) by unfold NS.flip; rw [hf]; exact if_pos (flipE_ok hat hv)]
      (refine hx_plain rfl ?_; refine h_assign rfl rfl rfl rfl ?_; refine hx_nil ?_; refine hq_then ?_; refine hc_seq ?_; refine hc_seq ?_; refine hc_lex ?_; refine hx_plain rfl ?_; refine h_move rfl rfl rfl rfl ?_; refine hx_plain rfl ?_)
      refine h_callR rfl rfl rfl rfl rfl rfl EC.out ((num_spec _).reads _) ?_
      (refine hx_plain rfl ?_; refine h_cmp rfl rfl rfl rfl rfl rfl ?_; refine hx_nil ?_; refine hq_then ?_; refine hc_condF rfl ?_; refine hc_skip ?_; refine hq_then ?_)
      refine hc_drawV (fun i => Nat.beq i 18) [0, 1, 2, 3, 4, 5, 6, 7, 8, 9, 10, 11, 12, 13, 14, 15, 16, 17, 18] (fun _ => false) (by kernel_rfl) (by kernel_rfl) rfl ?_
      (refine hx_plain rfl ?_; refine h_move rfl rfl rfl rfl ?_; refine hx_plain rfl ?_; refine h_move rfl rfl rfl rfl ?_; refine hx_plain rfl ?_; refine h_rowAddr rfl rfl rfl UC.out IC.size (by omega) (by omega) rfl rfl ?_; refine hx_plain rfl ?_; refine h_fieldAddr rfl rfl FC.out rfl rfl ?_; refine hx_plain rfl ?_; refine h_rowLoad rfl (.tail (.tail (.tail (.tail .head)))) rfl UC.out rfl (by with_reducible assumption) rfl rfl rfl ?_; refine hx_plain rfl ?_; refine h_move rfl rfl rfl rfl ?_; refine hx_plain rfl ?_; refine h_move rfl rfl rfl rfl ?_; refine hx_plain rfl ?_; refine h_move rfl rfl rfl rfl ?_; refine hx_plain rfl ?_; refine h_rowAddr rfl rfl rfl UC.out IC.size (by omega) (by omega) rfl rfl ?_; refine hx_plain rfl ?_; refine h_fieldAddr rfl rfl FC.out rfl rfl ?_; refine hx_plain rfl ?_; refine h_rowLoad rfl (.tail (.tail (.tail (.tail .head)))) rfl UC.out rfl (by with_reducible assumption) rfl rfl rfl ?_; refine hx_plain rfl ?_; refine h_move rfl rfl rfl rfl ?_; refine hx_plain rfl ?_; refine h_rowAddr rfl rfl rfl UC.out IC.size (by omega) (by omega) rfl rfl ?_; refine hx_plain rfl ?_; refine h_rowLoad1 rfl (.tail .head) rfl UC.out rfl (by with_reducible assumption) rfl rfl rfl ?_; refine hx_plain rfl ?_; refine h_move rfl rfl rfl rfl ?_; refine hx_plain rfl ?_; refine h_convInt rfl rfl UC.out UC.out rfl rfl ?_; refine hx_plain rfl ?_; refine h_bits rfl rfl rfl rfl rfl rfl ?_; refine hx_plain rfl ?_; refine h_rowAddr rfl rfl rfl UC.out IC.size (by omega) (by omega) rfl rfl ?_; refine hx_plain rfl ?_)
      dsimp only [SlV.v]
      skip
      refine h_rowStoreN (E := byteE) (i := a.toNat) (z := xorV x0 vv) rfl rfl rfl (.tail .head) rfl rfl rfl IC.size hx0 rfl rfl ?_
      (refine hx_nil ?_; refine hq_norm_block ?_; refine hq_norm_block ?_; refine hq_then ?_; refine hc_lex ?_; refine hx_plain rfl ?_; refine h_move rfl rfl rfl rfl ?_; refine hx_plain rfl ?_; refine h_arithI rfl rfl rfl rfl (by omega) rfl rfl ?_; refine hx_plain rfl ?_; refine h_assign rfl rfl rfl rfl ?_; refine hx_nil ?_)
      rw [show j + 1 = ((i + 1 : Nat) : Int) by omega]
      refine hq_round (i + 1, s.upd f.no (flipD f.data a vv), .slice (some ⟨g, 0, none⟩) qs.length cv) (by show 1000 - (i + 1) < 1000 - i; omega) ⟨by show i + 1 ≤ 1000; omega, hs.upd f.no (by unfold flipD; rw [List.length_set]; exact hfd)⟩ (.cons rfl (.cons rfl (.cons rfl (.cons rfl (.cons rfl .nil))))) (fun w' h => ?_)
      have h1 := (show St w nowhere (Row byteE 5 gd sc (f.data.set a.toNat (xorV x0 vv)) :: _) w' from h).rowV_mk
      rw [List.length_set] at h1
      have hd : f.data.set a.toNat (xorV x0 vv) = flipD f.data a vv := by unfold flipD; rw [hx0]; rfl
      rw [hd] at h1
      have h2 : St w nowhere (QF.row ⟨⟨f.no, f.to, flipD f.data a vv⟩, ⟨some ⟨gd, 0, none⟩, f.data.length, sc⟩⟩ :: netR (qs.eraseIdx k) :: Row qfE 52 g cv qs :: NetO p (s.upd f.no (flipD f.data a vv)) :: []) w' := h1.sub (.cons .head (.cons (.tail (.tail (.tail (.tail .head)))) (.cons (.tail (.tail (.tail .head))) (.cons .head .nil))))
      have h3 := rows_put hqk h2
      have h4 := (h3.perm (List.Perm.swap _ _ _)).rowV_mk
      have h5 := row_data (set_enc (q' := ⟨⟨f.no, f.to, flipD f.data a vv⟩, ⟨some ⟨gd, 0, none⟩, f.data.length, sc⟩⟩) hqk rfl) h4
      refine FlO_shut (qs := qs.set k ⟨⟨f.no, f.to, flipD f.data a vv⟩, ⟨some ⟨gd, 0, none⟩, f.data.length, sc⟩⟩) ?_ h5
      rw [List.map_set, hqs, NS.upd_at hs.ok hsk]
      -- </K4>
  · rintro ⟨s, v⟩ hs
    dsimp only at hs ⊢
    -- <F>
    (refine hq_exit_block ?_; refine hq_then ?_; refine hc_seq ?_; refine hc_lex ?_; refine hx_plain rfl ?_; refine h_move rfl rfl rfl rfl ?_; refine hx_plain rfl ?_)
    refine h_call rfl rfl rfl rfl rfl rfl rfl rfl EC.out (.cons (.tail .head) .nil) (under_spec hs.ok (fun f hf => by have := hs.dat f hf; omega)) ?_
    rintro u M rfl
    (refine hx_plain rfl ?_; refine h_assign rfl rfl rfl rfl ?_; refine hx_nil ?_; refine hq_then ?_; refine hc_seq ?_; refine hc_lex ?_; refine hx_plain rfl ?_; refine h_move rfl rfl rfl rfl ?_; refine hx_plain rfl ?_; refine h_move rfl rfl rfl rfl ?_; refine hx_plain rfl ?_)
    refine h_callRd rfl rfl rfl rfl rfl rfl EC.out (fun w' h => sameFlights (h.rdFlO .head) (h.rdFlO (.tail (.tail .head)))) ?_
    (refine hx_plain rfl ?_; refine h_assign rfl rfl rfl rfl ?_; refine hx_nil ?_; refine hq_then ?_; refine hc_ret ?_)
    exact hq_ret1 (.inr rfl) rfl rfl ⟨by simp, rfl⟩ (fun _ h => h.emp)
    -- </F>
end Go.Proofs.Ytbfmmgbfliebhaa
