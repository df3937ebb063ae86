import Derived.Test.YtggohplddejniaaS3
namespace Go.Proofs.Ytggohplddejniaa
open Go Go.Proofs
set_option maxRecDepth 4000

theorem pop_has {a : AS Int} (h : Inv IT a) (h0 : 0 < a.xs.length) : a.has IT (fstT IT a).k = true := (h.has_iff _).2 ⟨_, fst_mem h0, rfl⟩
theorem pop_gone {a : AS Int} (h : Inv IT a) : (popR IT a).has IT (fstT IT a).k = false := by
  cases hh : (popR IT a).has IT (fstT IT a).k with
  | false => rfl
  | true =>
    obtain ⟨u, hu, e⟩ := ((pop_inv h).1.has_iff _).1 hh
    exact absurd e (((pop_inv h).2 u).1 hu).2
theorem cancel_not {a : AS Int} {k : Int} (h : a.has IT k = false) : a.cancel IT k = a := by
  unfold AS.has at h
  unfold AS.cancel
  cases hm : mget IT.ko a.m k with
  | none => rfl
  | some v => rw [hm] at h; cases h
def aheadT (a : AS Int) (i : Nat) : Tim Int := if i = 0 then ⟨0, 0⟩ else outT IT a (i - 1)
def foundR (want : List Pair) (u : Tim Int) (j : Nat) : Bool := (want.take j).any fun q => decide (q.K = u.k) && decide (q.At = u.at_)
theorem foundR_succ {want : List Pair} {u : Tim Int} {j : Nat} (h : j < want.length) : foundR want u (j + 1) = (foundR want u j || (decide (want[j].K = u.k) && decide (want[j].At = u.at_))) := by
  unfold foundR
  rw [List.take_succ_eq_append_getElem h, List.any_append]
  simp
set_option maxHeartbeats 16000000 in
theorem sorts_law {ps : List Pair} {w : World} {v0 : Value} (now : Int) (rp : Rd pairE w v0 ps) (ht : ∀ q ∈ ps, q.At ≤ 9223372036854775807) :
    Calls Try.prog 6 [v0, .int .i64 now].toArray w (fun en w' => en = .returned (.bool true) ∧ But w w' nowhere) := by
  have rp' := rp
  obtain ⟨a0, c0, rfl, l0, m0, k0⟩ := rp
  unfold maxLen at m0
  have hg : lim ps ≤ ps.length ∧ lim ps ≤ 300 ∧ (lim ps = ps.length ∨ lim ps = 300) := by unfold lim; omega
  have ha : ∀ i, i ≤ ps.length → Inv IT (setsR ps i e0) ∧ (setsR ps i e0).xs.length ≤ i := fun i hi => by
    have := setsR_inv ps (a := e0) Inv.new i (by omega)
    exact ⟨this.1, by have := this.2; simpa using this⟩
  refine reads_of Try.func6 rfl rfl (Nat.le_of_ble_eq_true rfl) ?_
  (refine hc_seq ?_; refine hc_lex ?_; refine hx_plain rfl ?_; refine h_assign rfl rfl rfl rfl ?_; refine hx_nil ?_; refine hq_then ?_; refine hc_seq ?_; refine hc_lex ?_; refine hx_plain rfl ?_)
  refine h_callR rfl rfl rfl rfl rfl rfl EC.out (head_spec.reads _) ?_
  (refine hx_plain rfl ?_; refine h_assign rfl rfl rfl rfl ?_; refine hx_nil ?_; refine hq_then ?_; refine hc_seq ?_; refine hc_lex ?_; refine hx_plain rfl ?_)
  refine h_call rfl rfl rfl rfl rfl rfl rfl rfl EC.out .nil AI.new_spec ?_
  rintro v M ⟨p, rfl, rfl⟩
  (refine hx_plain rfl ?_; refine h_assign rfl rfl rfl rfl ?_; refine hx_nil ?_; refine hq_then ?_; refine hc_seq ?_; refine hc_lex ?_; refine hx_plain rfl ?_)
  refine h_call rfl rfl rfl rfl rfl rfl rfl rfl EC.out .nil AI.new_spec ?_
  rintro v M ⟨q, rfl, rfl⟩
  (refine hx_plain rfl ?_; refine h_assign rfl rfl rfl rfl ?_; refine hx_nil ?_; refine hq_then ?_; refine hc_seq ?_; refine hc_seq ?_; refine hc_lex ?_; refine hx_plain rfl ?_; refine h_move rfl rfl rfl rfl ?_; refine hx_plain rfl ?_; refine h_not rfl rfl rfl rfl ?_; refine hx_plain rfl ?_; refine h_move rfl rfl rfl rfl ?_; refine hx_yes rfl rfl rfl ?_; refine h_move rfl rfl rfl rfl ?_; refine hx_yes rfl rfl rfl ?_; refine h_eqNil rfl rfl rfl UC.out rfl rfl ?_; refine hx_plain rfl ?_; refine h_pickF rfl rfl rfl rfl rfl ?_; refine hx_plain rfl ?_; refine h_move rfl rfl rfl rfl ?_; refine hx_yes rfl rfl rfl ?_; refine h_move rfl rfl rfl rfl ?_; refine hx_yes rfl rfl rfl ?_; refine h_eqNil rfl rfl rfl UC.out rfl rfl ?_; refine hx_plain rfl ?_; refine h_pickF rfl rfl rfl rfl rfl ?_; refine hx_nil ?_; refine hq_then ?_; refine hc_condF rfl ?_; refine hc_skip ?_; refine hq_then ?_; refine hc_seq ?_; refine hc_seq ?_; refine hc_lex ?_; refine hx_plain rfl ?_; refine h_assign rfl rfl rfl rfl ?_; refine hx_nil ?_; refine hq_then ?_; refine hc_block ?_)
  refine hc_cut (id := 0) (Y := Unit) (fun _ => [(0, .slice a0 ps.length c0), (1, .int .i64 now), (6, .pointer (some ⟨p, 0, none⟩)), (7, .pointer (some ⟨q, 0, none⟩))]) (fun _ => [AlI p (setsR ps (lim ps) e0), AlI q (setsR ps (lim ps) e0)]) (fun _ => True) ?_ ?_
  · refine hc_loop (X := Nat) (fun i => [(0, .slice a0 ps.length c0), (1, .int .i64 now), (6, .pointer (some ⟨p, 0, none⟩)), (7, .pointer (some ⟨q, 0, none⟩)), (8, .int .i64 (i : Int))]) (fun i => [AlI p (setsR ps i e0), AlI q (setsR ps i e0)]) (fun i => i ≤ lim ps) (fun i => lim ps - i) 0 (.cons rfl (.cons rfl (.cons rfl (.cons rfl (.cons rfl .nil))))) (Nat.zero_le _) (fun _ h => h.sub (.cons (.tail .head) (.cons .head .nil))) ?_
    intro i hi
    by_cases hlt : i < lim ps
    case neg =>
      obtain rfl : i = lim ps := by omega
      (refine hc_seq ?_; refine hc_seq ?_; refine hc_lex ?_; refine hx_plain rfl ?_; refine h_move rfl rfl rfl rfl ?_; refine hx_plain rfl ?_; refine h_move rfl rfl rfl rfl ?_; refine hx_plain rfl ?_; refine h_len_slice rfl rfl rfl UC.out rfl rfl rfl ?_; refine hx_plain rfl ?_; refine h_cmp rfl rfl rfl rfl rfl rfl ?_; refine hx_plain rfl ?_; refine h_move rfl rfl rfl rfl ?_; refine hx_gcaseD rfl rfl rfl (fun hc => ?_) (fun hc => ?_); refine hx_yes rfl rfl rfl ?_; refine h_move rfl rfl rfl rfl ?_; refine hx_yes rfl rfl rfl ?_; refine h_cmp rfl rfl rfl rfl rfl rfl ?_; refine hx_plain rfl ?_; refine h_pickT rfl rfl rfl rfl rfl ?_; refine hx_nil ?_; refine hq_then ?_; refine hc_condDF rfl (by omega) ?_; refine hc_exit ?_; refine hq_exit_then ?_; refine hq_exit_then ?_; rotate_left; refine hx_skip rfl rfl rfl rfl rfl rfl ?_; refine hx_skip rfl rfl rfl rfl rfl rfl ?_; refine hx_plain rfl ?_; refine h_pickF rfl rfl rfl rfl rfl ?_; refine hx_nil ?_; refine hq_then ?_; refine hc_condF rfl ?_; refine hc_exit ?_; refine hq_exit_then ?_; refine hq_exit_then ?_; rotate_left)
      iterate 2 first | exact hq_cut () trivial (.cons rfl (.cons rfl (.cons rfl (.cons rfl .nil)))) (fun _ h => h) | skip
    have hps : ps ≠ [] := by
      intro e
      have : ps.length = 0 := by rw [e]; rfl
      omega
    obtain ⟨g1, o1, rfl, r1⟩ := k0.resolve_left hps
    have hil : i < ps.length := by omega
    obtain ⟨t, ht'⟩ : ∃ t, ps[i] = t := ⟨_, rfl⟩
    have e1 : ps[((i : Nat) : Int).toNat]? = some t := by rw [show ((i : Nat) : Int).toNat = i by omega, List.getElem?_eq_getElem hil, ht']
    have hinv := ha i (by omega)
    have hsucc : setsR ps (i + 1) e0 = (setsR ps i e0).set IT t.K t.At := by rw [setsR_succ (by omega), ht']
    obtain ⟨A, hA⟩ : ∃ A, setsR ps i e0 = A := ⟨_, rfl⟩
    rw [hA] at hinv hsucc ⊢
    (refine hc_seq ?_; refine hc_seq ?_; refine hc_lex ?_; refine hx_plain rfl ?_; refine h_move rfl rfl rfl rfl ?_; refine hx_plain rfl ?_; refine h_move rfl rfl rfl rfl ?_; refine hx_plain rfl ?_; refine h_len_slice rfl rfl rfl UC.out rfl rfl rfl ?_; refine hx_plain rfl ?_; refine h_cmp rfl rfl rfl rfl rfl rfl ?_; refine hx_plain rfl ?_; refine h_move rfl rfl rfl rfl ?_; refine hx_gT rfl rfl rfl (by omega) ?_; refine hx_yes rfl rfl rfl ?_; refine h_move rfl rfl rfl rfl ?_; refine hx_yes rfl rfl rfl ?_; refine h_cmp rfl rfl rfl rfl rfl rfl ?_; refine hx_plain rfl ?_; refine h_pickT rfl rfl rfl rfl rfl ?_; refine hx_nil ?_; refine hq_then ?_; refine hc_condDT rfl (by omega) ?_; refine hc_skip ?_; refine hq_then ?_; refine hc_seq ?_; refine hc_block ?_; refine hc_seq ?_; refine hc_draw0 (by kernel_rfl) (by kernel_rfl) ?_; refine hx_plain rfl ?_; refine h_move rfl rfl rfl rfl ?_; refine hx_plain rfl ?_; refine h_move rfl rfl rfl rfl ?_; refine hx_plain rfl ?_; refine h_move rfl rfl rfl rfl ?_; refine hx_plain rfl ?_; refine h_indexAddr rfl rfl rfl UC.out IC.size (by omega) (by omega) rfl rfl ?_; refine hx_plain rfl ?_; refine h_fieldAddr rfl rfl FC.out rfl rfl ?_; refine hx_plain rfl ?_; refine h_rdLoad rfl r1 rfl UC.out rfl (by with_reducible assumption) rfl rfl rfl ?_; refine hx_plain rfl ?_; refine h_move rfl rfl rfl rfl ?_; refine hx_plain rfl ?_; refine h_move rfl rfl rfl rfl ?_; refine hx_plain rfl ?_; refine h_indexAddr rfl rfl rfl UC.out IC.size (by omega) (by omega) rfl rfl ?_; refine hx_plain rfl ?_; refine h_fieldAddr rfl rfl FC.out rfl rfl ?_; refine hx_plain rfl ?_; refine h_rdLoad rfl r1 rfl UC.out rfl (by with_reducible assumption) rfl rfl rfl ?_; refine hx_plain rfl ?_)
    refine h_call rfl rfl rfl rfl rfl rfl rfl rfl EC.out (.cons .head .nil) (AI.set_spec p A t.K t.At hinv.1.wf (by omega)) ?_
    rintro v M ⟨rfl, rfl⟩
    (refine hx_nil ?_; refine hq_then ?_; refine hc_draw0 (by kernel_rfl) (by kernel_rfl) ?_; refine hx_plain rfl ?_; refine h_move rfl rfl rfl rfl ?_; refine hx_plain rfl ?_; refine h_move rfl rfl rfl rfl ?_; refine hx_plain rfl ?_; refine h_move rfl rfl rfl rfl ?_; refine hx_plain rfl ?_; refine h_indexAddr rfl rfl rfl UC.out IC.size (by omega) (by omega) rfl rfl ?_; refine hx_plain rfl ?_; refine h_fieldAddr rfl rfl FC.out rfl rfl ?_; refine hx_plain rfl ?_; refine h_rdLoad rfl r1 rfl UC.out rfl (by with_reducible assumption) rfl rfl rfl ?_; refine hx_plain rfl ?_; refine h_move rfl rfl rfl rfl ?_; refine hx_plain rfl ?_; refine h_move rfl rfl rfl rfl ?_; refine hx_plain rfl ?_; refine h_indexAddr rfl rfl rfl UC.out IC.size (by omega) (by omega) rfl rfl ?_; refine hx_plain rfl ?_; refine h_fieldAddr rfl rfl FC.out rfl rfl ?_; refine hx_plain rfl ?_; refine h_rdLoad rfl r1 rfl UC.out rfl (by with_reducible assumption) rfl rfl rfl ?_; refine hx_plain rfl ?_)
    refine h_call rfl rfl rfl rfl rfl rfl rfl rfl EC.out (.cons (.tail .head) .nil) (AI.set_spec q A t.K t.At hinv.1.wf (by omega)) ?_
    rintro v M ⟨rfl, rfl⟩
    (refine hx_nil ?_; refine hq_norm_block ?_; refine hq_then ?_; refine hc_lex ?_; refine hx_plain rfl ?_; refine h_move rfl rfl rfl rfl ?_; refine hx_plain rfl ?_; refine h_arithI rfl rfl rfl rfl (by omega) rfl rfl ?_; refine hx_plain rfl ?_; refine h_assign rfl rfl rfl rfl ?_; refine hx_nil ?_)
    refine hq_round (i + 1) (by omega) (by omega) (.cons rfl (.cons rfl (.cons rfl (.cons rfl (.cons rfl .nil))))) (fun _ h => ?_)
    rw [hsucc]
    exact h.sub (.cons (.tail .head) (.cons .head .nil))
  rintro ⟨⟩ _
  have hinv := ha (lim ps) (by omega)
  have hcnt := setsR_count ps (a := e0) Inv.new rfl (lim ps) (by omega)
  have hlast := setsR_last ps (a := e0) Inv.new rfl (lim ps) (by omega)
  have hat := setsR_at ps (a := e0) Inv.new rfl ht (lim ps) (by omega)
  obtain ⟨A, hA⟩ : ∃ A, setsR ps (lim ps) e0 = A := ⟨_, rfl⟩
  rw [hA] at hinv hcnt hlast hat ⊢
  obtain ⟨want, hw⟩ : ∃ want, lastR ps (lim ps) = want := ⟨_, rfl⟩
  rw [hw] at hcnt hlast
  (refine hq_exit_block ?_; refine hq_then ?_; refine hc_seq ?_; refine hc_lex ?_; refine hx_plain rfl ?_; refine h_move rfl rfl rfl rfl ?_; refine hx_plain rfl ?_)
  refine h_callW (post := fun u M => M = [RowV pairE 28 u want]) rfl rfl rfl rfl rfl rfl rfl rfl EC.out (fun w' h => (last_spec (h.rd rp')).mono fun en w'' ⟨v, h1, h2⟩ => ⟨v, _, h1, by rw [← hw], h2⟩) ?_
  rintro vw M rfl
  (refine hx_plain rfl ?_; refine h_assign rfl rfl rfl rfl ?_; refine hx_nil ?_; refine hq_then ?_; refine hc_seq ?_; refine hc_seq ?_; refine hc_lex ?_; refine hx_plain rfl ?_; refine h_move rfl rfl rfl rfl ?_; refine hx_plain rfl ?_)
  refine h_call rfl rfl rfl rfl rfl rfl rfl rfl EC.out (.cons (.tail .head) .nil) (AI.len_spec p A) ?_
  rintro v M ⟨rfl, rfl⟩
  (refine hx_plain rfl ?_; refine h_move rfl rfl rfl rfl ?_; refine hx_plain rfl ?_)
  refine h_lenV rfl rfl (.tail .head) rfl UC.out rfl rfl rfl ?_
  rw [← hcnt]
  (refine hx_plain rfl ?_; refine h_cmp rfl rfl rfl rfl rfl rfl ?_; refine hx_nil ?_; refine hq_then ?_; refine hc_condDF rfl (by omega) ?_; refine hc_skip ?_; refine hq_then ?_; refine hc_seq ?_; refine hc_lex ?_; refine hx_plain rfl ?_; refine h_move rfl rfl rfl rfl ?_; refine hx_plain rfl ?_; refine h_move rfl rfl rfl rfl ?_; refine hx_plain rfl ?_)
  obtain ⟨m, hm, d1, d2, d3, d4, d5, d6⟩ := due_two hinv.1 now 9223372036854775807 hat
  refine h_call rfl rfl rfl rfl rfl rfl rfl rfl EC.out (.cons (.tail (.tail .head)) .nil) (AI.due_spec q A now hinv.1 (by omega)) ?_
  rintro ve M rfl
  rw [show AS.due AI.T A now = AS.due IT A now from rfl, d1]
  dsimp only
  (refine hx_plain rfl ?_; refine h_assign rfl rfl rfl rfl ?_; refine hx_nil ?_; refine hq_then ?_; refine hc_seq ?_; refine hc_lex ?_; refine hx_plain rfl ?_; refine h_move rfl rfl rfl rfl ?_; refine hx_plain rfl ?_)
  have hpm := pops_inv m hinv.1
  have hpl := pops_len m hinv.1 hm
  refine h_call rfl rfl rfl rfl rfl rfl rfl rfl EC.out (.cons .head .nil) (AI.due_spec q (pops IT m A) 9223372036854775807 hpm.1 (by omega)) ?_
  rintro vl M rfl
  rw [show AS.due AI.T (pops IT m A) 9223372036854775807 = AS.due IT (pops IT m A) 9223372036854775807 from rfl, d2]
  dsimp only
  (refine hx_plain rfl ?_; refine h_assign rfl rfl rfl rfl ?_; refine hx_nil ?_; refine hq_then ?_; refine hc_seq ?_; refine hc_seq ?_; refine hc_lex ?_; refine hx_plain rfl ?_; refine h_move rfl rfl rfl rfl ?_; refine hx_plain rfl ?_)
  have hel : ((outs IT m A).map (·.k)).length = m := by rw [List.length_map, outs_len]
  have hll : ((outs IT (A.xs.length - m) (pops IT m A)).map (·.k)).length = A.xs.length - m := by rw [List.length_map, outs_len]
  obtain ⟨el, hel'⟩ : ∃ el, (outs IT m A).map (·.k) = el := ⟨_, rfl⟩
  obtain ⟨ll, hll'⟩ : ∃ ll, (outs IT (A.xs.length - m) (pops IT m A)).map (·.k) = ll := ⟨_, rfl⟩
  obtain ⟨Z, hZ⟩ : ∃ Z, pops IT (A.xs.length - m) (pops IT m A) = Z := ⟨_, rfl⟩
  rw [hel'] at hel d5 ⊢
  rw [hll'] at hll d6 ⊢
  rw [hZ] at d3 ⊢
  refine h_lenV rfl rfl (.tail (.tail .head)) rfl UC.out rfl rfl rfl ?_
  rw [hel]
  (refine hx_plain rfl ?_; refine h_move rfl rfl rfl rfl ?_; refine hx_plain rfl ?_)
  refine h_lenV rfl rfl (.tail .head) rfl UC.out rfl rfl rfl ?_
  rw [hll]
  (refine hx_plain rfl ?_; refine h_arithI rfl rfl rfl rfl (by omega) rfl rfl ?_; refine hx_plain rfl ?_; refine h_move rfl rfl rfl rfl ?_; refine hx_plain rfl ?_)
  refine h_lenV rfl rfl (.tail (.tail (.tail (.tail .head)))) rfl UC.out rfl rfl rfl ?_
  rw [← hcnt]
  (refine hx_plain rfl ?_; refine h_cmp rfl rfl rfl rfl rfl rfl ?_; refine hx_plain rfl ?_; refine h_move rfl rfl rfl rfl ?_; refine hx_gF rfl rfl rfl (by omega) ?_; refine hx_yes rfl rfl rfl ?_; refine h_move rfl rfl rfl rfl ?_; refine hx_yes rfl rfl rfl ?_)
  refine h_call rfl rfl rfl rfl rfl rfl rfl rfl EC.out (.cons .head .nil) (AI.len_spec q Z) ?_
  rintro v M ⟨rfl, rfl⟩
  rw [d3]
  (refine hx_yes rfl rfl rfl ?_; refine h_cmp rfl rfl rfl rfl rfl rfl ?_; refine hx_plain rfl ?_; refine h_pickF rfl rfl rfl rfl rfl ?_; refine hx_nil ?_; refine hq_then ?_; refine hc_condF rfl ?_; refine hc_skip ?_; refine hq_then ?_; refine hc_seq ?_; refine hc_lex ?_; refine hx_plain rfl ?_; (refine h_alloc rfl rfl IC.zero rfl rfl rfl (fun _ => ?_)); refine hx_nil ?_; refine hq_then ?_; refine hc_seq ?_; refine hc_seq ?_; refine hc_lex ?_; refine hx_plain rfl ?_; refine h_assign rfl rfl rfl rfl ?_; refine hx_nil ?_; refine hq_then ?_; refine hc_block ?_)
  rename_i ah
  refine hc_cut (id := 2) (Y := Unit) (fun _ => [(0, .slice a0 ps.length c0), (1, .int .i64 now), (6, .pointer (some ⟨p, 0, none⟩)), (10, ve)]) (fun _ => [AlI p (pops IT A.xs.length A), RowV AI.keyE 3 ve el]) (fun _ => True) ?_ ?_
  · refine hc_loop (X := Nat) (fun i => [(0, .slice a0 ps.length c0), (1, .int .i64 now), (6, .pointer (some ⟨p, 0, none⟩)), (9, vw), (10, ve), (11, vl), (12, .pointer (some ⟨ah, 0, none⟩)), (13, .int .i64 (i : Int))]) (fun i => [AlI p (pops IT i A), RowV AI.keyE 3 ve el, RowV AI.keyE 3 vl ll, RowV pairE 28 vw want, Blk ah (.cells #[.int .i64 (aheadT A i).k, .int .i64 (aheadT A i).at_] 28 (0, 0))]) (fun i => i ≤ A.xs.length) (fun i => A.xs.length - i) 0 (.cons rfl (.cons rfl (.cons rfl (.cons rfl (.cons rfl (.cons rfl (.cons rfl (.cons rfl .nil)))))))) (Nat.zero_le _) (fun _ h => h.sub (.cons (.tail (.tail (.tail (.tail .head)))) (.cons (.tail (.tail (.tail .head))) (.cons (.tail (.tail .head)) (.cons (.tail (.tail .head)) (.cons .head .nil)))))) ?_
    intro i hi
    by_cases hlt : i < A.xs.length
    case neg =>
      obtain rfl : i = A.xs.length := by omega
      (refine hc_seq ?_; refine hc_seq ?_; refine hc_lex ?_; refine hx_plain rfl ?_; refine h_move rfl rfl rfl rfl ?_; refine hx_plain rfl ?_; refine h_move rfl rfl rfl rfl ?_; refine hx_plain rfl ?_)
      refine h_lenV rfl rfl (.tail (.tail (.tail .head))) rfl UC.out rfl rfl rfl ?_
      rw [← hcnt]
      (refine hx_plain rfl ?_; refine h_cmp rfl rfl rfl rfl rfl rfl ?_; refine hx_nil ?_; refine hq_then ?_; refine hc_condDF rfl (by omega) ?_; refine hc_exit ?_; refine hq_exit_then ?_; refine hq_exit_then ?_)
      exact hq_cut () trivial (.cons rfl (.cons rfl (.cons rfl (.cons rfl .nil)))) (fun _ h => h.sub (.cons .head (.cons .head .nil)))
    have hBi := (pops_inv i hinv.1).1
    have hBl := pops_len i hinv.1 (by omega)
    have hps := pops_succ (T := IT) i A
    have hum := out_mem hinv.1 hlt
    have hu : outT IT A i = fstT IT (pops IT i A) := rfl
    obtain ⟨B, hB⟩ : ∃ B, pops IT i A = B := ⟨_, rfl⟩
    rw [hB] at hBi hBl hps hu ⊢
    have hhas := pop_has hBi (by omega)
    have hgone := pop_gone hBi
    have hwhen := hBi.when_of (fst_mem (T := IT) (a := B) (by omega))
    have hcl : (popR IT B).xs.length = B.xs.length - 1 := pop_len hBi (by omega)
    have hBp := (pop_inv hBi).1
    have hcan : B.cancel IT (fstT IT B).k = popR IT B := rfl
    have hcn := cancel_not hgone
    rw [hu] at hum
    obtain ⟨u, hue⟩ : ∃ u, fstT IT B = u := ⟨_, rfl⟩
    have hget : B.xs.getD 0 (tz IT) = u := hue
    rw [hue] at hhas hgone hwhen hcan hcn hum hu
    (refine hc_seq ?_; refine hc_seq ?_; refine hc_lex ?_; refine hx_plain rfl ?_; refine h_move rfl rfl rfl rfl ?_; refine hx_plain rfl ?_; refine h_move rfl rfl rfl rfl ?_; refine hx_plain rfl ?_)
    refine h_lenV rfl rfl (.tail (.tail (.tail .head))) rfl UC.out rfl rfl rfl ?_
    rw [← hcnt]
    (refine hx_plain rfl ?_; refine h_cmp rfl rfl rfl rfl rfl rfl ?_; refine hx_nil ?_; refine hq_then ?_; refine hc_condDT rfl (by omega) ?_; refine hc_skip ?_; refine hq_then ?_; refine hc_seq ?_; refine hc_block ?_; refine hc_seq ?_; refine hc_lex ?_; refine hx_plain rfl ?_; refine h_move rfl rfl rfl rfl ?_; refine hx_plain rfl ?_)
    refine h_call rfl rfl rfl rfl rfl rfl rfl rfl EC.out (.cons .head .nil) (AI.next_spec p B) ?_
    rintro v M ⟨rfl, rfl⟩
    rw [hget, decide_eq_true (show 0 < B.xs.length by omega)]
    (refine hx_plain rfl ?_; refine h_move rfl rfl rfl rfl ?_; refine hx_plain rfl ?_; refine h_extract rfl rfl rfl rfl rfl ?_; refine hx_plain rfl ?_; refine h_extract rfl rfl rfl rfl rfl ?_; refine hx_plain rfl ?_; refine h_extract rfl rfl rfl rfl rfl ?_; refine hx_plain rfl ?_; refine h_assign rfl rfl rfl rfl ?_; refine hx_plain rfl ?_; refine h_assign rfl rfl rfl rfl ?_; refine hx_plain rfl ?_; refine h_assign rfl rfl rfl rfl ?_; refine hx_nil ?_; refine hq_then ?_; refine hc_seq ?_; refine hc_lex ?_; refine hx_plain rfl ?_; refine h_move rfl rfl rfl rfl ?_; refine hx_plain rfl ?_; refine h_move rfl rfl rfl rfl ?_; refine hx_plain rfl ?_)
    refine h_call rfl rfl rfl rfl rfl rfl rfl rfl EC.out (.cons .head .nil) (AI.at_spec p B u.k hBi.wf) ?_
    rintro v M ⟨rfl, rfl⟩
    rw [show AS.when AI.T B u.k = AS.when IT B u.k from rfl, show AS.has AI.T B u.k = AS.has IT B u.k from rfl, hwhen, hhas]
    (refine hx_plain rfl ?_; refine h_move rfl rfl rfl rfl ?_; refine hx_plain rfl ?_; refine h_extract rfl rfl rfl rfl rfl ?_; refine hx_plain rfl ?_; refine h_extract rfl rfl rfl rfl rfl ?_; refine hx_plain rfl ?_; refine h_assign rfl rfl rfl rfl ?_; refine hx_plain rfl ?_; refine h_assign rfl rfl rfl rfl ?_; refine hx_nil ?_; refine hq_then ?_; refine hc_seq ?_; refine hc_lex ?_; refine hx_plain rfl ?_; refine h_move rfl rfl rfl rfl ?_; refine hx_plain rfl ?_; refine h_move rfl rfl rfl rfl ?_; refine hx_plain rfl ?_)
    refine h_call rfl rfl rfl rfl rfl rfl rfl rfl EC.out (.cons .head .nil) (AI.cancel_spec p B u.k hBi.wf (by omega)) ?_
    rintro v M ⟨rfl, rfl⟩
    rw [show AS.has AI.T B u.k = AS.has IT B u.k from rfl, hhas, show AS.cancel AI.T B u.k = AS.cancel IT B u.k from rfl, hcan]
    (refine hx_plain rfl ?_; refine h_assign rfl rfl rfl rfl ?_; refine hx_nil ?_; refine hq_then ?_; refine hc_seq ?_; refine hc_lex ?_; refine hx_plain rfl ?_; refine h_move rfl rfl rfl rfl ?_; refine hx_plain rfl ?_; refine h_move rfl rfl rfl rfl ?_; refine hx_plain rfl ?_)
    refine h_call rfl rfl rfl rfl rfl rfl rfl rfl EC.out (.cons .head .nil) (AI.cancel_spec p (popR IT B) u.k hBp.wf (by omega)) ?_
    rintro v M ⟨rfl, rfl⟩
    rw [show AS.has AI.T (popR IT B) u.k = AS.has IT (popR IT B) u.k from rfl, hgone, show AS.cancel AI.T (popR IT B) u.k = AS.cancel IT (popR IT B) u.k from rfl, hcn, ← hps]
    (refine hx_plain rfl ?_; refine h_assign rfl rfl rfl rfl ?_; refine hx_nil ?_; refine hq_then ?_; refine hc_seq ?_; refine hc_seq ?_; refine hc_lex ?_; refine hx_plain rfl ?_; refine h_move rfl rfl rfl rfl ?_; refine hx_plain rfl ?_; refine h_not rfl rfl rfl rfl ?_; refine hx_plain rfl ?_; refine h_move rfl rfl rfl rfl ?_; refine hx_yes rfl rfl rfl ?_; refine h_move rfl rfl rfl rfl ?_; refine hx_yes rfl rfl rfl ?_; refine h_not rfl rfl rfl rfl ?_; refine hx_plain rfl ?_; refine h_pickF rfl rfl rfl rfl rfl ?_; refine hx_plain rfl ?_; refine h_move rfl rfl rfl rfl ?_; refine hx_yes rfl rfl rfl ?_; refine h_move rfl rfl rfl rfl ?_; refine hx_yes rfl rfl rfl ?_; refine h_move rfl rfl rfl rfl ?_; refine hx_yes rfl rfl rfl ?_; refine h_cmp rfl rfl rfl rfl rfl rfl ?_; refine hx_plain rfl ?_; refine h_pickF rfl rfl rfl rfl rfl ?_; refine hx_plain rfl ?_; refine h_move rfl rfl rfl rfl ?_; refine hx_gF rfl rfl rfl (by omega) ?_; refine hx_yes rfl rfl rfl ?_; refine h_move rfl rfl rfl rfl ?_; refine hx_yes rfl rfl rfl ?_; refine h_not rfl rfl rfl rfl ?_; refine hx_plain rfl ?_; refine h_pickF rfl rfl rfl rfl rfl ?_; refine hx_plain rfl ?_; refine h_move rfl rfl rfl rfl ?_; refine hx_yes rfl rfl rfl ?_; refine h_move rfl rfl rfl rfl ?_; refine hx_plain rfl ?_; refine h_pickF rfl rfl rfl rfl rfl ?_; refine hx_nil ?_; refine hq_then ?_; refine hc_condF rfl ?_; refine hc_skip ?_; refine hq_then ?_; refine hc_seq ?_; refine hc_lex ?_; refine hx_plain rfl ?_; refine h_assign rfl rfl rfl rfl ?_; refine hx_nil ?_; refine hq_then ?_; refine hc_seq ?_; refine hc_seq ?_; refine hc_lex ?_; refine hx_plain rfl ?_; refine h_assign rfl rfl rfl rfl ?_; refine hx_nil ?_; refine hq_then ?_; refine hc_block ?_)
    have hfound : foundR want u want.length = true := by
      obtain ⟨q', hq1, hq2⟩ := (hlast u).1 hum
      unfold foundR
      rw [List.take_length, List.any_eq_true]
      refine ⟨q', hq1, ?_⟩
      rw [← hq2]
      simp [toT]
    refine hc_cut (id := 4) (Y := Unit) (fun _ => [(0, .slice a0 ps.length c0), (1, .int .i64 now), (6, .pointer (some ⟨p, 0, none⟩)), (9, vw), (10, ve), (11, vl), (12, .pointer (some ⟨ah, 0, none⟩)), (13, .int .i64 (i : Int)), (14, .int .i64 u.k), (15, .int .i64 u.at_), (21, .bool true)]) (fun _ => [AlI p (pops IT (i + 1) A), RowV AI.keyE 3 ve el, RowV AI.keyE 3 vl ll, RowV pairE 28 vw want, Blk ah (.cells #[.int .i64 (aheadT A i).k, .int .i64 (aheadT A i).at_] 28 (0, 0))]) (fun _ => True) ?_ ?_
    · refine hc_loop (X := Nat × Bool) (fun x => [(0, .slice a0 ps.length c0), (1, .int .i64 now), (6, .pointer (some ⟨p, 0, none⟩)), (9, vw), (10, ve), (11, vl), (12, .pointer (some ⟨ah, 0, none⟩)), (13, .int .i64 (i : Int)), (14, .int .i64 u.k), (15, .int .i64 u.at_), (21, .bool x.2), (22, .int .i64 (x.1 : Int))]) (fun _ => [AlI p (pops IT (i + 1) A), RowV AI.keyE 3 ve el, RowV AI.keyE 3 vl ll, RowV pairE 28 vw want, Blk ah (.cells #[.int .i64 (aheadT A i).k, .int .i64 (aheadT A i).at_] 28 (0, 0))]) (fun x => x.1 ≤ want.length ∧ x.2 = foundR want u x.1) (fun x => want.length - x.1) (0, false) (.cons rfl (.cons rfl (.cons rfl (.cons rfl (.cons rfl (.cons rfl (.cons rfl (.cons rfl (.cons rfl (.cons rfl (.cons rfl (.cons rfl .nil)))))))))))) ⟨Nat.zero_le _, rfl⟩ (fun _ h => h) ?_
      rintro ⟨j, fj⟩ ⟨hj, hfj⟩
      dsimp only at hj hfj ⊢
      by_cases hjl : j < want.length
      case neg =>
        obtain rfl : j = want.length := by omega
        rw [hfound] at hfj
        subst hfj
        (refine hc_seq ?_; refine hc_seq ?_; refine hc_lex ?_; refine hx_plain rfl ?_; refine h_move rfl rfl rfl rfl ?_; refine hx_plain rfl ?_; refine h_move rfl rfl rfl rfl ?_; refine hx_plain rfl ?_)
        refine h_lenV rfl rfl (.tail (.tail (.tail .head))) rfl UC.out rfl rfl rfl ?_
        (refine hx_plain rfl ?_; refine h_cmp rfl rfl rfl rfl rfl rfl ?_; refine hx_nil ?_; refine hq_then ?_; refine hc_condDF rfl (by omega) ?_; refine hc_exit ?_; refine hq_exit_then ?_; refine hq_exit_then ?_)
        exact hq_cut () trivial (.cons rfl (.cons rfl (.cons rfl (.cons rfl (.cons rfl (.cons rfl (.cons rfl (.cons rfl (.cons rfl (.cons rfl (.cons rfl .nil))))))))))) (fun _ h => h)
      obtain ⟨t, ht'⟩ : ∃ t, want[j] = t := ⟨_, rfl⟩
      have e1 : want[((j : Nat) : Int).toNat]? = some t := by rw [show ((j : Nat) : Int).toNat = j by omega, List.getElem?_eq_getElem hjl, ht']
      have hsj := foundR_succ (u := u) hjl
      rw [ht', ← hfj] at hsj
      clear hfj
      refine hc_rowV (.tail (.tail (.tail .head))) (fun _ e => by rw [e] at hjl; exact absurd hjl (Nat.not_lt_zero _)) ?_
      rintro gw cw rfl
      have hwl : want.length ≤ 300 := by omega
      cases fj with
      | true =>
        (refine hc_seq ?_; refine hc_seq ?_; refine hc_lex ?_; refine hx_plain rfl ?_; refine h_move rfl rfl rfl rfl ?_; refine hx_plain rfl ?_; refine h_move rfl rfl rfl rfl ?_; refine hx_plain rfl ?_; refine h_len_slice rfl rfl rfl UC.out rfl rfl rfl ?_; refine hx_plain rfl ?_; refine h_cmp rfl rfl rfl rfl rfl rfl ?_; refine hx_nil ?_; refine hq_then ?_; refine hc_condDT rfl (by omega) ?_; refine hc_skip ?_; refine hq_then ?_; refine hc_seq ?_; refine hc_block ?_; refine hc_lex ?_; refine hx_plain rfl ?_; refine h_move rfl rfl rfl rfl ?_; refine hx_plain rfl ?_; refine h_move rfl rfl rfl rfl ?_; refine hx_skip rfl rfl rfl rfl rfl rfl ?_; refine hx_skip rfl rfl rfl rfl rfl rfl ?_; refine hx_skip rfl rfl rfl rfl rfl rfl ?_; refine hx_skip rfl rfl rfl rfl rfl rfl ?_; refine hx_skip rfl rfl rfl rfl rfl rfl ?_; refine hx_skip rfl rfl rfl rfl rfl rfl ?_; refine hx_skip rfl rfl rfl rfl rfl rfl ?_; refine hx_skip rfl rfl rfl rfl rfl rfl ?_; refine hx_skipU rfl rfl rfl rfl rfl ?_; refine hx_skipU rfl rfl rfl rfl rfl ?_; refine hx_skipU rfl rfl rfl rfl rfl ?_; refine hx_skipU rfl rfl rfl rfl rfl ?_; refine hx_skipU rfl rfl rfl rfl rfl ?_; refine hx_skipU rfl rfl rfl rfl rfl ?_; refine hx_skipU rfl rfl rfl rfl rfl ?_; refine hx_skip rfl rfl rfl rfl rfl rfl ?_; refine hx_plain rfl ?_; refine h_pickT rfl rfl rfl rfl rfl ?_; refine hx_plain rfl ?_; refine h_assign rfl rfl rfl rfl ?_; refine hx_nil ?_; refine hq_norm_block ?_; refine hq_then ?_; refine hc_lex ?_; refine hx_plain rfl ?_; refine h_move rfl rfl rfl rfl ?_; refine hx_plain rfl ?_; refine h_arithI rfl rfl rfl rfl (by omega) rfl rfl ?_; refine hx_plain rfl ?_; refine h_assign rfl rfl rfl rfl ?_; refine hx_nil ?_)
        exact hq_round (j + 1, true) (by show want.length - (j + 1) < want.length - j; omega) ⟨by show j + 1 ≤ _; omega, by rw [hsj]; rfl⟩ (.cons rfl (.cons rfl (.cons rfl (.cons rfl (.cons rfl (.cons rfl (.cons rfl (.cons rfl (.cons rfl (.cons rfl (.cons rfl (.cons rfl .nil)))))))))))) (fun _ h => h.rowV_mk.sub (.cons (.tail .head) (.cons (.tail .head) (.cons (.tail .head) (.cons .head (.cons .head .nil))))))
      | false =>
        by_cases hk : t.K = u.k
        · (refine hc_seq ?_; refine hc_seq ?_; refine hc_lex ?_; refine hx_plain rfl ?_; refine h_move rfl rfl rfl rfl ?_; refine hx_plain rfl ?_; refine h_move rfl rfl rfl rfl ?_; refine hx_plain rfl ?_; refine h_len_slice rfl rfl rfl UC.out rfl rfl rfl ?_; refine hx_plain rfl ?_; refine h_cmp rfl rfl rfl rfl rfl rfl ?_; refine hx_nil ?_; refine hq_then ?_; refine hc_condDT rfl (by omega) ?_; refine hc_skip ?_; refine hq_then ?_; refine hc_seq ?_; refine hc_block ?_; refine hc_lex ?_; refine hx_plain rfl ?_; refine h_move rfl rfl rfl rfl ?_; refine hx_plain rfl ?_; refine h_move rfl rfl rfl rfl ?_; refine hx_yes rfl rfl rfl ?_; refine h_move rfl rfl rfl rfl ?_; refine hx_yes rfl rfl rfl ?_; refine h_move rfl rfl rfl rfl ?_; refine hx_yes rfl rfl rfl ?_; refine h_rowAddr rfl rfl rfl UC.out IC.size (by omega) (by omega) rfl rfl ?_; refine hx_yes rfl rfl rfl ?_; refine h_fieldAddr rfl rfl FC.out rfl rfl ?_; refine hx_yes rfl rfl rfl ?_; refine h_rowLoad rfl .head rfl UC.out rfl (by with_reducible assumption) rfl rfl rfl ?_; refine hx_yes rfl rfl rfl ?_; refine h_move rfl rfl rfl rfl ?_; refine hx_yes rfl rfl rfl ?_; refine h_cmp rfl rfl rfl rfl rfl rfl ?_; refine hx_yes rfl rfl rfl ?_; refine h_move rfl rfl rfl rfl ?_; refine hx_gT rfl rfl rfl (by omega) ?_; refine hx_yes rfl rfl rfl ?_; refine h_move rfl rfl rfl rfl ?_; refine hx_yes rfl rfl rfl ?_; refine h_move rfl rfl rfl rfl ?_; refine hx_yes rfl rfl rfl ?_; refine h_rowAddr rfl rfl rfl UC.out IC.size (by omega) (by omega) rfl rfl ?_; refine hx_yes rfl rfl rfl ?_; refine h_fieldAddr rfl rfl FC.out rfl rfl ?_; refine hx_yes rfl rfl rfl ?_; refine h_rowLoad rfl .head rfl UC.out rfl (by with_reducible assumption) rfl rfl rfl ?_; refine hx_yes rfl rfl rfl ?_; refine h_move rfl rfl rfl rfl ?_; refine hx_yes rfl rfl rfl ?_; refine h_cmp rfl rfl rfl rfl rfl rfl ?_; refine hx_yes rfl rfl rfl ?_; refine h_pickT rfl rfl rfl rfl rfl ?_; refine hx_plain rfl ?_; refine h_pickF rfl rfl rfl rfl rfl ?_; refine hx_plain rfl ?_; refine h_assign rfl rfl rfl rfl ?_; refine hx_nil ?_; refine hq_norm_block ?_; refine hq_then ?_; refine hc_lex ?_; refine hx_plain rfl ?_; refine h_move rfl rfl rfl rfl ?_; refine hx_plain rfl ?_; refine h_arithI rfl rfl rfl rfl (by omega) rfl rfl ?_; refine hx_plain rfl ?_; refine h_assign rfl rfl rfl rfl ?_; refine hx_nil ?_)
          exact hq_round (j + 1, decide (t.At = u.at_)) (by show want.length - (j + 1) < want.length - j; omega) ⟨by show j + 1 ≤ _; omega, by rw [hsj, decide_eq_true hk]; rfl⟩ (.cons rfl (.cons rfl (.cons rfl (.cons rfl (.cons rfl (.cons rfl (.cons rfl (.cons rfl (.cons rfl (.cons rfl (.cons rfl (.cons rfl .nil)))))))))))) (fun _ h => h.rowV_mk.sub (.cons (.tail .head) (.cons (.tail .head) (.cons (.tail .head) (.cons .head (.cons .head .nil))))))
        · (refine hc_seq ?_; refine hc_seq ?_; refine hc_lex ?_; refine hx_plain rfl ?_; refine h_move rfl rfl rfl rfl ?_; refine hx_plain rfl ?_; refine h_move rfl rfl rfl rfl ?_; refine hx_plain rfl ?_; refine h_len_slice rfl rfl rfl UC.out rfl rfl rfl ?_; refine hx_plain rfl ?_; refine h_cmp rfl rfl rfl rfl rfl rfl ?_; refine hx_nil ?_; refine hq_then ?_; refine hc_condDT rfl (by omega) ?_; refine hc_skip ?_; refine hq_then ?_; refine hc_seq ?_; refine hc_block ?_; refine hc_lex ?_; refine hx_plain rfl ?_; refine h_move rfl rfl rfl rfl ?_; refine hx_plain rfl ?_; refine h_move rfl rfl rfl rfl ?_; refine hx_yes rfl rfl rfl ?_; refine h_move rfl rfl rfl rfl ?_; refine hx_yes rfl rfl rfl ?_; refine h_move rfl rfl rfl rfl ?_; refine hx_yes rfl rfl rfl ?_; refine h_rowAddr rfl rfl rfl UC.out IC.size (by omega) (by omega) rfl rfl ?_; refine hx_yes rfl rfl rfl ?_; refine h_fieldAddr rfl rfl FC.out rfl rfl ?_; refine hx_yes rfl rfl rfl ?_; refine h_rowLoad rfl .head rfl UC.out rfl (by with_reducible assumption) rfl rfl rfl ?_; refine hx_yes rfl rfl rfl ?_; refine h_move rfl rfl rfl rfl ?_; refine hx_yes rfl rfl rfl ?_; refine h_cmp rfl rfl rfl rfl rfl rfl ?_; refine hx_yes rfl rfl rfl ?_; refine h_move rfl rfl rfl rfl ?_; refine hx_gF rfl rfl rfl (by omega) ?_; refine hx_skip rfl rfl rfl rfl rfl rfl ?_; refine hx_skip rfl rfl rfl rfl rfl rfl ?_; refine hx_skip rfl rfl rfl rfl rfl rfl ?_; refine hx_skip rfl rfl rfl rfl rfl rfl ?_; refine hx_skip rfl rfl rfl rfl rfl rfl ?_; refine hx_skip rfl rfl rfl rfl rfl rfl ?_; refine hx_skip rfl rfl rfl rfl rfl rfl ?_; refine hx_yes rfl rfl rfl ?_; refine h_pickF rfl rfl rfl rfl rfl ?_; refine hx_plain rfl ?_; refine h_pickF rfl rfl rfl rfl rfl ?_; refine hx_plain rfl ?_; refine h_assign rfl rfl rfl rfl ?_; refine hx_nil ?_; refine hq_norm_block ?_; refine hq_then ?_; refine hc_lex ?_; refine hx_plain rfl ?_; refine h_move rfl rfl rfl rfl ?_; refine hx_plain rfl ?_; refine h_arithI rfl rfl rfl rfl (by omega) rfl rfl ?_; refine hx_plain rfl ?_; refine h_assign rfl rfl rfl rfl ?_; refine hx_nil ?_)
          exact hq_round (j + 1, false) (by show want.length - (j + 1) < want.length - j; omega) ⟨by show j + 1 ≤ _; omega, by rw [hsj, decide_eq_false hk]; rfl⟩ (.cons rfl (.cons rfl (.cons rfl (.cons rfl (.cons rfl (.cons rfl (.cons rfl (.cons rfl (.cons rfl (.cons rfl (.cons rfl (.cons rfl .nil)))))))))))) (fun _ h => h.rowV_mk.sub (.cons (.tail .head) (.cons (.tail .head) (.cons (.tail .head) (.cons .head (.cons .head .nil))))))
    rintro ⟨⟩ _
    have hord : i = 0 ∨ (0 < i ∧ (aheadT A i).at_ < u.at_) ∨ (0 < i ∧ (aheadT A i).at_ = u.at_ ∧ (aheadT A i).k < u.k) := by
      rcases Nat.eq_zero_or_pos i with h0 | h0
      · exact .inl h0
      · have h1 := ahd_iff.1 (out_lt hinv.1 (i := i - 1) (by omega))
        rw [show i - 1 + 1 = i by omega, hu] at h1
        have h2 : aheadT A i = outT IT A (i - 1) := if_neg (by omega)
        rw [h2]
        rcases h1 with h1 | ⟨h1, h3⟩
        · exact .inr (.inl ⟨h0, h1⟩)
        · exact .inr (.inr ⟨h0, h1, of_decide_eq_true h3⟩)
    have hnext : aheadT A (i + 1) = u := by
      unfold aheadT
      rw [if_neg (by omega), show i + 1 - 1 = i by omega, hu]
    obtain ⟨⟨ak, aat⟩, hah⟩ : ∃ x, aheadT A i = x := ⟨_, rfl⟩
    rw [hah] at hord ⊢
    dsimp only at hord ⊢
    (refine hq_exit_block ?_; refine hq_then ?_)
    refine hc_meet (Y := Unit) (fun _ => [(0, .slice a0 ps.length c0), (1, .int .i64 now), (6, .pointer (some ⟨p, 0, none⟩)), (9, vw), (10, ve), (11, vl), (12, .pointer (some ⟨ah, 0, none⟩)), (13, .int .i64 (i : Int)), (14, .int .i64 u.k), (15, .int .i64 u.at_)]) (fun _ => [AlI p (pops IT (i + 1) A), RowV AI.keyE 3 ve el, RowV AI.keyE 3 vl ll, RowV pairE 28 vw want, Blk ah (.cells #[.int .i64 ak, .int .i64 aat] 28 (0, 0))]) (fun _ => True) ?_ ?_
    · rcases hord with h0 | ⟨h0, h1⟩ | ⟨h0, h1, h2⟩
      · (refine hc_seq ?_; refine hc_lex ?_; refine hx_plain rfl ?_; refine h_move rfl rfl rfl rfl ?_; refine hx_plain rfl ?_; refine h_not rfl rfl rfl rfl ?_; refine hx_plain rfl ?_; refine h_move rfl rfl rfl rfl ?_; refine hx_yes rfl rfl rfl ?_; refine h_move rfl rfl rfl rfl ?_; refine hx_yes rfl rfl rfl ?_; refine h_cmp rfl rfl rfl rfl rfl rfl ?_; refine hx_yes rfl rfl rfl ?_; refine h_move rfl rfl rfl rfl ?_; refine hx_gF rfl rfl rfl (by omega) ?_; refine hx_skip rfl rfl rfl rfl rfl rfl ?_; refine hx_skip rfl rfl rfl rfl rfl rfl ?_; refine hx_skip rfl rfl rfl rfl rfl rfl ?_; refine hx_skip rfl rfl rfl rfl rfl rfl ?_; refine hx_skip rfl rfl rfl rfl rfl rfl ?_; refine hx_skipU rfl rfl rfl rfl rfl ?_; refine hx_skipU rfl rfl rfl rfl rfl ?_; refine hx_skipU rfl rfl rfl rfl rfl ?_; refine hx_skipU rfl rfl rfl rfl rfl ?_; refine hx_skipU rfl rfl rfl rfl rfl ?_; refine hx_skipU rfl rfl rfl rfl rfl ?_; refine hx_skipU rfl rfl rfl rfl rfl ?_; refine hx_skipU rfl rfl rfl rfl rfl ?_; refine hx_skipU rfl rfl rfl rfl rfl ?_; refine hx_skipU rfl rfl rfl rfl rfl ?_; refine hx_skip rfl rfl rfl rfl rfl rfl ?_; refine hx_yes rfl rfl rfl ?_; refine h_pickF rfl rfl rfl rfl rfl ?_; refine hx_plain rfl ?_; refine h_pickF rfl rfl rfl rfl rfl ?_; refine hx_nil ?_; refine hq_then ?_; refine hc_condF rfl ?_; refine hc_skip ?_)
        exact hq_met () trivial (.cons rfl (.cons rfl (.cons rfl (.cons rfl (.cons rfl (.cons rfl (.cons rfl (.cons rfl (.cons rfl (.cons rfl .nil)))))))))) (fun _ h => h)
      · (refine hc_seq ?_; refine hc_lex ?_; refine hx_plain rfl ?_; refine h_move rfl rfl rfl rfl ?_; refine hx_plain rfl ?_; refine h_not rfl rfl rfl rfl ?_; refine hx_plain rfl ?_; refine h_move rfl rfl rfl rfl ?_; refine hx_yes rfl rfl rfl ?_; refine h_move rfl rfl rfl rfl ?_; refine hx_yes rfl rfl rfl ?_; refine h_cmp rfl rfl rfl rfl rfl rfl ?_; refine hx_yes rfl rfl rfl ?_; refine h_move rfl rfl rfl rfl ?_; refine hx_gT rfl rfl rfl (by omega) ?_; refine hx_yes rfl rfl rfl ?_; refine h_move rfl rfl rfl rfl ?_; refine hx_yes rfl rfl rfl ?_; refine h_fieldAddr0 rfl rfl FC.out rfl rfl ?_; refine hx_yes rfl rfl rfl ?_; refine h_load rfl rfl UC.out rfl (.tail (.tail (.tail (.tail .head)))) rfl rfl rfl ?_; refine hx_yes rfl rfl rfl ?_; refine h_cmp rfl rfl rfl rfl rfl rfl ?_; refine hx_yes rfl rfl rfl ?_; refine h_move rfl rfl rfl rfl ?_; refine hx_gF rfl rfl rfl (by omega) ?_; refine hx_yes rfl rfl rfl ?_; refine h_move rfl rfl rfl rfl ?_; refine hx_yes rfl rfl rfl ?_; refine h_fieldAddr0 rfl rfl FC.out rfl rfl ?_; refine hx_yes rfl rfl rfl ?_; refine h_load rfl rfl UC.out rfl (.tail (.tail (.tail (.tail .head)))) rfl rfl rfl ?_; refine hx_yes rfl rfl rfl ?_; refine h_cmp rfl rfl rfl rfl rfl rfl ?_; refine hx_yes rfl rfl rfl ?_; refine h_move rfl rfl rfl rfl ?_; refine hx_gF rfl rfl rfl (by omega) ?_; refine hx_skip rfl rfl rfl rfl rfl rfl ?_; refine hx_skip rfl rfl rfl rfl rfl rfl ?_; refine hx_skip rfl rfl rfl rfl rfl rfl ?_; refine hx_skip rfl rfl rfl rfl rfl rfl ?_; refine hx_yes rfl rfl rfl ?_; refine h_pickF rfl rfl rfl rfl rfl ?_; refine hx_yes rfl rfl rfl ?_; refine h_pickF rfl rfl rfl rfl rfl ?_; refine hx_yes rfl rfl rfl ?_; refine h_pickT rfl rfl rfl rfl rfl ?_; refine hx_plain rfl ?_; refine h_pickF rfl rfl rfl rfl rfl ?_; refine hx_nil ?_; refine hq_then ?_; refine hc_condF rfl ?_; refine hc_skip ?_)
        exact hq_met () trivial (.cons rfl (.cons rfl (.cons rfl (.cons rfl (.cons rfl (.cons rfl (.cons rfl (.cons rfl (.cons rfl (.cons rfl .nil)))))))))) (fun _ h => h)
      · (refine hc_seq ?_; refine hc_lex ?_; refine hx_plain rfl ?_; refine h_move rfl rfl rfl rfl ?_; refine hx_plain rfl ?_; refine h_not rfl rfl rfl rfl ?_; refine hx_plain rfl ?_; refine h_move rfl rfl rfl rfl ?_; refine hx_yes rfl rfl rfl ?_; refine h_move rfl rfl rfl rfl ?_; refine hx_yes rfl rfl rfl ?_; refine h_cmp rfl rfl rfl rfl rfl rfl ?_; refine hx_yes rfl rfl rfl ?_; refine h_move rfl rfl rfl rfl ?_; refine hx_gT rfl rfl rfl (by omega) ?_; refine hx_yes rfl rfl rfl ?_; refine h_move rfl rfl rfl rfl ?_; refine hx_yes rfl rfl rfl ?_; refine h_fieldAddr0 rfl rfl FC.out rfl rfl ?_; refine hx_yes rfl rfl rfl ?_; refine h_load rfl rfl UC.out rfl (.tail (.tail (.tail (.tail .head)))) rfl rfl rfl ?_; refine hx_yes rfl rfl rfl ?_; refine h_cmp rfl rfl rfl rfl rfl rfl ?_; refine hx_yes rfl rfl rfl ?_; refine h_move rfl rfl rfl rfl ?_; refine hx_gF rfl rfl rfl (by omega) ?_; refine hx_yes rfl rfl rfl ?_; refine h_move rfl rfl rfl rfl ?_; refine hx_yes rfl rfl rfl ?_; refine h_fieldAddr0 rfl rfl FC.out rfl rfl ?_; refine hx_yes rfl rfl rfl ?_; refine h_load rfl rfl UC.out rfl (.tail (.tail (.tail (.tail .head)))) rfl rfl rfl ?_; refine hx_yes rfl rfl rfl ?_; refine h_cmp rfl rfl rfl rfl rfl rfl ?_; refine hx_yes rfl rfl rfl ?_; refine h_move rfl rfl rfl rfl ?_; refine hx_gT rfl rfl rfl (by omega) ?_; refine hx_yes rfl rfl rfl ?_; refine h_move rfl rfl rfl rfl ?_; refine hx_yes rfl rfl rfl ?_; refine h_fieldAddr0 rfl rfl FC.out rfl rfl ?_; refine hx_yes rfl rfl rfl ?_; refine h_load rfl rfl UC.out rfl (.tail (.tail (.tail (.tail .head)))) rfl rfl rfl ?_; refine hx_yes rfl rfl rfl ?_; refine h_cmp rfl rfl rfl rfl rfl rfl ?_; refine hx_yes rfl rfl rfl ?_; refine h_pickT rfl rfl rfl rfl rfl ?_; refine hx_yes rfl rfl rfl ?_; refine h_pickF rfl rfl rfl rfl rfl ?_; refine hx_yes rfl rfl rfl ?_; refine h_pickT rfl rfl rfl rfl rfl ?_; refine hx_plain rfl ?_; refine h_pickF rfl rfl rfl rfl rfl ?_; refine hx_nil ?_; refine hq_then ?_; refine hc_condDF rfl (by omega) ?_; refine hc_skip ?_)
        exact hq_met () trivial (.cons rfl (.cons rfl (.cons rfl (.cons rfl (.cons rfl (.cons rfl (.cons rfl (.cons rfl (.cons rfl (.cons rfl .nil)))))))))) (fun _ h => h)
    rintro ⟨⟩ _
    refine hc_know (fun _ h => And.intro (h.rowV_shapeS (.tail .head)) (h.rowV_shapeS (.tail (.tail .head)))) ?_
    rintro ⟨⟨ae, ce, rfl⟩, ⟨al, cl, rfl⟩⟩
    have h4 := d4 i hlt
    rw [hu] at h4
    by_cases him : i < m
    · have hle : u.at_ ≤ now := h4.1 him
      have e3 : el[((i : Nat) : Int).toNat]? = some u.k := by rw [show ((i : Nat) : Int).toNat = i by omega, d5 i him, hu]
      refine hc_rowV (.tail .head) (fun _ e => by rw [e] at hel; simp at hel; omega) ?_
      intro ge ce' e
      injection e with e4 e5 e6
      subst e4 e6
      (refine hc_seq ?_; refine hc_lex ?_; refine hx_plain rfl ?_; refine h_move rfl rfl rfl rfl ?_; refine hx_plain rfl ?_; refine h_move rfl rfl rfl rfl ?_; refine hx_plain rfl ?_; refine h_build rfl inferInstance rfl rfl rfl rfl ?_; refine hx_plain rfl ?_; refine h_storeAll rfl rfl rfl rfl rfl rfl IC.size (.tail (.tail (.tail (.tail .head)))) rfl rfl rfl (List.all_eq_true.1 rfl) ?_; refine hx_nil ?_; refine hq_then ?_; refine hc_seq ?_; refine hc_seq ?_; refine hc_lex ?_; refine hx_plain rfl ?_; refine h_move rfl rfl rfl rfl ?_; refine hx_plain rfl ?_; refine h_move rfl rfl rfl rfl ?_; refine hx_plain rfl ?_; refine h_len_slice rfl rfl rfl UC.out rfl rfl rfl ?_; refine hx_plain rfl ?_; refine h_cmp rfl rfl rfl rfl rfl rfl ?_; refine hx_plain rfl ?_; refine h_move rfl rfl rfl rfl ?_; refine hx_plain rfl ?_; refine h_move rfl rfl rfl rfl ?_; refine hx_plain rfl ?_; refine h_cmp rfl rfl rfl rfl rfl rfl ?_; refine hx_plain rfl ?_; refine h_cmpB rfl rfl rfl UC.out rfl rfl rfl ?_; refine hx_nil ?_; refine hq_then ?_; refine hc_cond rfl (fun hc => ?_) (fun hc => ?_); refine hc_seq ?_; refine hc_lex ?_; refine hx_plain rfl ?_; refine h_assign rfl rfl rfl rfl ?_; refine hx_nil ?_; refine hq_then ?_; refine hc_ret ?_; refine hq_ret_then ?_; refine hq_ret_block ?_; refine hq_ret_then ?_; refine hq_ret_then ?_; refine hq_cut_ret ?_; refine hq_ret_block ?_; refine hq_ret_then ?_; rotate_left; refine hc_skip ?_; refine hq_then ?_; refine hc_seq ?_; refine hc_lex ?_; refine hx_plain rfl ?_; refine h_move rfl rfl rfl rfl ?_; refine hx_plain rfl ?_; refine h_move rfl rfl rfl rfl ?_; refine hx_plain rfl ?_; refine h_len_slice rfl rfl rfl UC.out rfl rfl rfl ?_; refine hx_plain rfl ?_; refine h_cmp rfl rfl rfl rfl rfl rfl ?_; refine hx_plain rfl ?_; refine h_move rfl rfl rfl rfl ?_; refine hx_gT rfl rfl rfl (by omega) ?_; refine hx_yes rfl rfl rfl ?_; refine h_move rfl rfl rfl rfl ?_; refine hx_yes rfl rfl rfl ?_; refine h_move rfl rfl rfl rfl ?_; refine hx_yes rfl rfl rfl ?_; refine h_rowAddr rfl rfl rfl UC.out IC.size (by omega) (by omega) rfl rfl ?_; refine hx_yes rfl rfl rfl ?_; refine h_rowLoad1 rfl (.tail .head) rfl UC.out rfl (by with_reducible assumption) rfl rfl rfl ?_; refine hx_yes rfl rfl rfl ?_; refine h_move rfl rfl rfl rfl ?_; refine hx_yes rfl rfl rfl ?_; refine h_cmp rfl rfl rfl rfl rfl rfl ?_; refine hx_plain rfl ?_; refine h_pickT rfl rfl rfl rfl rfl ?_; refine hx_plain rfl ?_; refine h_move rfl rfl rfl rfl ?_; refine hx_gF rfl rfl rfl (by omega) ?_; refine hx_yes rfl rfl rfl ?_; refine h_move rfl rfl rfl rfl ?_; refine hx_yes rfl rfl rfl ?_; refine h_move rfl rfl rfl rfl ?_; refine hx_yes rfl rfl rfl ?_; refine h_len_slice rfl rfl rfl UC.out rfl rfl rfl ?_; refine hx_yes rfl rfl rfl ?_; refine h_cmp rfl rfl rfl rfl rfl rfl ?_; refine hx_yes rfl rfl rfl ?_; refine h_move rfl rfl rfl rfl ?_; refine hx_gF rfl rfl rfl (by omega) ?_; refine hx_skip rfl rfl rfl rfl rfl rfl ?_; refine hx_skip rfl rfl rfl rfl rfl rfl ?_; refine hx_skip rfl rfl rfl rfl rfl rfl ?_; refine hx_skip rfl rfl rfl rfl rfl rfl ?_; refine hx_skip rfl rfl rfl rfl rfl rfl ?_; refine hx_skip rfl rfl rfl rfl rfl rfl ?_; refine hx_skip rfl rfl rfl rfl rfl rfl ?_; refine hx_skip rfl rfl rfl rfl rfl rfl ?_; refine hx_skip rfl rfl rfl rfl rfl rfl ?_; refine hx_yes rfl rfl rfl ?_; refine h_pickF rfl rfl rfl rfl rfl ?_; refine hx_plain rfl ?_; refine h_pickF rfl rfl rfl rfl rfl ?_; refine hx_nil ?_; refine hq_then ?_; refine hc_condF rfl ?_; refine hc_skip ?_; refine hq_norm_block ?_; refine hq_then ?_; refine hc_lex ?_; refine hx_plain rfl ?_; refine h_move rfl rfl rfl rfl ?_; refine hx_plain rfl ?_; refine h_arithI rfl rfl rfl rfl (by omega) rfl rfl ?_; refine hx_plain rfl ?_; refine h_assign rfl rfl rfl rfl ?_; refine hx_nil ?_; rotate_left)
      · exact absurd hc (by rw [decide_eq_true (show (i : Int) < (el.length : Int) by omega), decide_eq_true hle]; decide)
      refine hq_round (i + 1) (by omega) (by omega) (.cons rfl (.cons rfl (.cons rfl (.cons rfl (.cons rfl (.cons rfl (.cons rfl (.cons rfl .nil)))))))) (fun _ h => ?_)
      rw [hnext]
      exact (h.sub (.cons (.tail .head) (.cons (.tail .head) (.cons (.tail .head) (.cons (.tail .head) (.cons .head .nil)))))).rowV_mk.sub (.cons (.tail .head) (.cons .head (.cons .head (.cons .head (.cons .head .nil)))))
    · have hle : ¬ u.at_ ≤ now := fun hh => him (h4.2 hh)
      have e3 : ll[((i : Int) - (el.length : Int)).toNat]? = some u.k := by rw [show ((i : Int) - (el.length : Int)).toNat = i - m by omega, d6 i (by omega) hlt, hu]
      refine hc_rowV (.tail (.tail .head)) (fun _ e => by rw [e] at hll; simp at hll; omega) ?_
      intro ge ce' e
      injection e with e4 e5 e6
      subst e4 e6
      (refine hc_seq ?_; refine hc_lex ?_; refine hx_plain rfl ?_; refine h_move rfl rfl rfl rfl ?_; refine hx_plain rfl ?_; refine h_move rfl rfl rfl rfl ?_; refine hx_plain rfl ?_; refine h_build rfl inferInstance rfl rfl rfl rfl ?_; refine hx_plain rfl ?_; refine h_storeAll rfl rfl rfl rfl rfl rfl IC.size (.tail (.tail (.tail (.tail .head)))) rfl rfl rfl (List.all_eq_true.1 rfl) ?_; refine hx_nil ?_; refine hq_then ?_; refine hc_seq ?_; refine hc_seq ?_; refine hc_lex ?_; refine hx_plain rfl ?_; refine h_move rfl rfl rfl rfl ?_; refine hx_plain rfl ?_; refine h_move rfl rfl rfl rfl ?_; refine hx_plain rfl ?_; refine h_len_slice rfl rfl rfl UC.out rfl rfl rfl ?_; refine hx_plain rfl ?_; refine h_cmp rfl rfl rfl rfl rfl rfl ?_; refine hx_plain rfl ?_; refine h_move rfl rfl rfl rfl ?_; refine hx_plain rfl ?_; refine h_move rfl rfl rfl rfl ?_; refine hx_plain rfl ?_; refine h_cmp rfl rfl rfl rfl rfl rfl ?_; refine hx_plain rfl ?_; refine h_cmpB rfl rfl rfl UC.out rfl rfl rfl ?_; refine hx_nil ?_; refine hq_then ?_; refine hc_cond rfl (fun hc => ?_) (fun hc => ?_); refine hc_seq ?_; refine hc_lex ?_; refine hx_plain rfl ?_; refine h_assign rfl rfl rfl rfl ?_; refine hx_nil ?_; refine hq_then ?_; refine hc_ret ?_; refine hq_ret_then ?_; refine hq_ret_block ?_; refine hq_ret_then ?_; refine hq_ret_then ?_; refine hq_cut_ret ?_; refine hq_ret_block ?_; refine hq_ret_then ?_; rotate_left; refine hc_skip ?_; refine hq_then ?_; refine hc_seq ?_; refine hc_lex ?_; refine hx_plain rfl ?_; refine h_move rfl rfl rfl rfl ?_; refine hx_plain rfl ?_; refine h_move rfl rfl rfl rfl ?_; refine hx_plain rfl ?_; refine h_len_slice rfl rfl rfl UC.out rfl rfl rfl ?_; refine hx_plain rfl ?_; refine h_cmp rfl rfl rfl rfl rfl rfl ?_; refine hx_plain rfl ?_; refine h_move rfl rfl rfl rfl ?_; refine hx_gF rfl rfl rfl (by omega) ?_; refine hx_skip rfl rfl rfl rfl rfl rfl ?_; refine hx_skip rfl rfl rfl rfl rfl rfl ?_; refine hx_skip rfl rfl rfl rfl rfl rfl ?_; refine hx_skip rfl rfl rfl rfl rfl rfl ?_; refine hx_skip rfl rfl rfl rfl rfl rfl ?_; refine hx_skip rfl rfl rfl rfl rfl rfl ?_; refine hx_plain rfl ?_; refine h_pickF rfl rfl rfl rfl rfl ?_; refine hx_plain rfl ?_; refine h_move rfl rfl rfl rfl ?_; refine hx_yes rfl rfl rfl ?_; refine h_move rfl rfl rfl rfl ?_; refine hx_yes rfl rfl rfl ?_; refine h_move rfl rfl rfl rfl ?_; refine hx_yes rfl rfl rfl ?_; refine h_len_slice rfl rfl rfl UC.out rfl rfl rfl ?_; refine hx_yes rfl rfl rfl ?_; refine h_cmp rfl rfl rfl rfl rfl rfl ?_; refine hx_yes rfl rfl rfl ?_; refine h_move rfl rfl rfl rfl ?_; refine hx_gT rfl rfl rfl (by omega) ?_; refine hx_yes rfl rfl rfl ?_; refine h_move rfl rfl rfl rfl ?_; refine hx_yes rfl rfl rfl ?_; refine h_move rfl rfl rfl rfl ?_; refine hx_yes rfl rfl rfl ?_; refine h_move rfl rfl rfl rfl ?_; refine hx_yes rfl rfl rfl ?_; refine h_len_slice rfl rfl rfl UC.out rfl rfl rfl ?_; refine hx_yes rfl rfl rfl ?_; refine h_arithI rfl rfl rfl rfl (by omega) rfl rfl ?_; refine hx_yes rfl rfl rfl ?_; refine h_rowAddr rfl rfl rfl UC.out IC.size (by omega) (by omega) rfl rfl ?_; refine hx_yes rfl rfl rfl ?_; refine h_rowLoad1 rfl (.tail .head) rfl UC.out rfl (by with_reducible assumption) rfl rfl rfl ?_; refine hx_yes rfl rfl rfl ?_; refine h_move rfl rfl rfl rfl ?_; refine hx_yes rfl rfl rfl ?_; refine h_cmp rfl rfl rfl rfl rfl rfl ?_; refine hx_yes rfl rfl rfl ?_; refine h_pickT rfl rfl rfl rfl rfl ?_; refine hx_plain rfl ?_; refine h_pickF rfl rfl rfl rfl rfl ?_; refine hx_nil ?_; refine hq_then ?_; refine hc_condDF rfl (by omega) ?_; refine hc_skip ?_; refine hq_norm_block ?_; refine hq_then ?_; refine hc_lex ?_; refine hx_plain rfl ?_; refine h_move rfl rfl rfl rfl ?_; refine hx_plain rfl ?_; refine h_arithI rfl rfl rfl rfl (by omega) rfl rfl ?_; refine hx_plain rfl ?_; refine h_assign rfl rfl rfl rfl ?_; refine hx_nil ?_; rotate_left)
      · exact absurd hc (by rw [decide_eq_false (show ¬ (i : Int) < (el.length : Int) by omega), decide_eq_false hle]; decide)
      refine hq_round (i + 1) (by omega) (by omega) (.cons rfl (.cons rfl (.cons rfl (.cons rfl (.cons rfl (.cons rfl (.cons rfl (.cons rfl .nil)))))))) (fun _ h => ?_)
      rw [hnext]
      exact (h.sub (.cons (.tail .head) (.cons (.tail .head) (.cons (.tail .head) (.cons (.tail .head) (.cons .head .nil)))))).rowV_mk.sub (.cons (.tail .head) (.cons (.tail .head) (.cons .head (.cons .head (.cons .head .nil)))))
  rintro ⟨⟩ _
  have hzl : (pops IT A.xs.length A).xs.length = 0 := by rw [pops_len _ hinv.1 (Nat.le_refl _)]; omega
  obtain ⟨Y, hY⟩ : ∃ Y, pops IT A.xs.length A = Y := ⟨_, rfl⟩
  rw [hY] at hzl ⊢
  have hks : (AS.due IT (setsR ps (lim ps) e0) now).1 = el := by rw [hA, d1]; exact hel'
  (refine hq_exit_block ?_; refine hq_then ?_; refine hc_seq ?_; refine hc_lex ?_; refine hx_plain rfl ?_; refine h_move rfl rfl rfl rfl ?_; refine hx_plain rfl ?_)
  refine h_call rfl rfl rfl rfl rfl rfl rfl rfl EC.out (.cons .head .nil) (AI.next_spec p Y) ?_
  rintro v M ⟨rfl, rfl⟩
  rw [decide_eq_false (show ¬ 0 < Y.xs.length by omega)]
  (refine hx_plain rfl ?_; refine h_move rfl rfl rfl rfl ?_; refine hx_plain rfl ?_; refine h_extract rfl rfl rfl rfl rfl ?_; refine hx_plain rfl ?_; refine h_extract rfl rfl rfl rfl rfl ?_; refine hx_plain rfl ?_; refine h_extract rfl rfl rfl rfl rfl ?_; refine hx_plain rfl ?_; refine h_assign rfl rfl rfl rfl ?_; refine hx_plain rfl ?_; refine h_assign rfl rfl rfl rfl ?_; refine hx_plain rfl ?_; refine h_assign rfl rfl rfl rfl ?_; refine hx_nil ?_; refine hq_then ?_; refine hc_seq ?_; refine hc_lex ?_; refine hx_plain rfl ?_; refine h_move rfl rfl rfl rfl ?_; refine hx_plain rfl ?_; refine h_not rfl rfl rfl rfl ?_; refine hx_plain rfl ?_; refine h_move rfl rfl rfl rfl ?_; refine hx_yes rfl rfl rfl ?_; refine h_move rfl rfl rfl rfl ?_; refine hx_yes rfl rfl rfl ?_)
  refine h_call rfl rfl rfl rfl rfl rfl rfl rfl EC.out (.cons .head .nil) (AI.len_spec p Y) ?_
  rintro v M ⟨rfl, rfl⟩
  rw [hzl]
  (refine hx_yes rfl rfl rfl ?_; refine h_cmp rfl rfl rfl rfl rfl rfl ?_; refine hx_plain rfl ?_; refine h_pickT rfl rfl rfl rfl rfl ?_; refine hx_plain rfl ?_; refine h_move rfl rfl rfl rfl ?_; refine hx_yes rfl rfl rfl ?_; refine h_move rfl rfl rfl rfl ?_; refine hx_yes rfl rfl rfl ?_; refine h_move rfl rfl rfl rfl ?_; refine hx_yes rfl rfl rfl ?_; refine h_move rfl rfl rfl rfl ?_; refine hx_yes rfl rfl rfl ?_)
  refine h_callRd rfl rfl rfl rfl rfl rfl EC.out (fun w' h => twins_reads now (h.rd rp') (by rw [hks]; exact h.rdRowV (.tail .head))) ?_
  (refine hx_plain rfl ?_; refine h_pickT rfl rfl rfl rfl rfl ?_; refine hx_plain rfl ?_; refine h_move rfl rfl rfl rfl ?_; refine hx_yes rfl rfl rfl ?_; refine h_move rfl rfl rfl rfl ?_; refine hx_yes rfl rfl rfl ?_; refine h_move rfl rfl rfl rfl ?_; refine hx_yes rfl rfl rfl ?_)
  refine h_callRd rfl rfl rfl rfl rfl rfl EC.out (fun w' h => small_reads now (h.rd rp')) ?_
  (refine hx_plain rfl ?_; refine h_pickT rfl rfl rfl rfl rfl ?_; refine hx_plain rfl ?_; refine h_assign rfl rfl rfl rfl ?_; refine hx_nil ?_; refine hq_then ?_; refine hc_ret ?_)
  exact hq_ret1 (.inr rfl) rfl rfl ⟨rfl, rfl⟩ (fun _ h => h.emp)
end Go.Proofs.Ytggohplddejniaa
