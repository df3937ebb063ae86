import Derived.Test.YtggohplddejniaaPSB
import Derived.Test.YtggohplddejniaaEngK
namespace Go.Proofs.Ytggohplddejniaa
open Go Go.Proofs
set_option maxRecDepth 4000

def wrapP (ps : List Pair) : List Pair := ps.map fun q => ⟨IntKind.u8.wrap q.K, q.At⟩
theorem wrapU8 (x : Int) : 0 ≤ IntKind.u8.wrap x ∧ IntKind.u8.wrap x ≤ 255 := by
  simp only [IntKind.wrap, IntKind.signed, IntKind.bits]
  simp
  omega
theorem wrapI_in' {x : Int} (h : 0 ≤ x ∧ x ≤ 255) : IntKind.i64.wrap x = x := by
  simp only [IntKind.wrap, IntKind.signed, IntKind.bits]
  simp
  omega
theorem wrapP_key {ps : List Pair} {n : Nat} (hn : n ≤ ps.length) : ∀ u ∈ (setsR (wrapP ps) n e0).xs, 0 ≤ u.k ∧ u.k ≤ 255 := by
  intro u hu
  rcases setsR_mem (wrapP ps) (a := e0) Inv.new n (by unfold wrapP; rw [List.length_map]; exact hn) u hu with h | ⟨q, hq, h⟩
  · cases h
  · obtain ⟨r, _, rfl⟩ := List.mem_map.1 (List.mem_of_mem_take hq)
    rw [h]
    exact wrapU8 _
theorem due_key {a : AS Int} (h : Inv IT a) (hb : ∀ u ∈ a.xs, 0 ≤ u.k ∧ u.k ≤ 255) (now : Int) : ∀ x ∈ (a.due IT now).1, 0 ≤ x ∧ x ≤ 255 := by
  obtain ⟨m, h1, h2, h3, h4⟩ := due_form a.xs.length (now := now) h (Nat.le_refl _)
  intro x hx
  rw [show a.due IT now = _ from h2] at hx
  obtain ⟨u, hu, rfl⟩ := List.mem_map.1 hx
  obtain ⟨i, hi⟩ := List.mem_iff_getElem?.1 hu
  have hl : i < m := by
    have := (List.getElem?_eq_some_iff.1 hi).1
    rwa [outs_len] at this
  rw [outs_get m i a hl] at hi
  injection hi with hi
  rw [← hi]
  exact hb _ (out_mem h (by omega))
theorem due_len {a : AS Int} (h : Inv IT a) (now : Int) : (a.due IT now).1.length ≤ a.xs.length := by
  obtain ⟨m, h1, h2, h3, h4⟩ := due_form a.xs.length (now := now) h (Nat.le_refl _)
  rw [show a.due IT now = _ from h2, List.length_map, outs_len]
  exact h1
set_option maxHeartbeats 8000000 in
theorem small_reads {ps : List Pair} {w : World} {v0 : Value} (now : Int) (rp : Rd pairE w v0 ps) :
    Calls Try.prog 36 [v0, .int .i64 now].toArray w (fun en w' => en = .returned (.bool true) ∧ But w w' nowhere) := by
  obtain ⟨a0, c0, rfl, l0, m0, k0⟩ := rp
  unfold maxLen at m0
  have hg : lim ps ≤ ps.length ∧ lim ps ≤ 300 ∧ (lim ps = ps.length ∨ lim ps = 300) := by unfold lim; omega
  have hwl : (wrapP ps).length = ps.length := List.length_map ..
  have ha : ∀ i, i ≤ ps.length → Inv IT (setsR (wrapP ps) i e0) ∧ (setsR (wrapP ps) i e0).xs.length ≤ i := fun i hi => by
    have := setsR_inv (wrapP ps) (a := e0) Inv.new i (by omega)
    exact ⟨this.1, by have := this.2; simpa using this⟩
  refine reads_of Try.func36 rfl rfl (Nat.le_of_ble_eq_true rfl) ?_
  (refine hc_seq ?_; refine hc_lex ?_; refine hx_plain rfl ?_; refine h_assign rfl rfl rfl rfl ?_; refine hx_nil ?_; refine hq_then ?_; refine hc_seq ?_; refine hc_lex ?_; refine hx_plain rfl ?_)
  refine h_call rfl rfl rfl rfl rfl rfl rfl rfl EC.out .nil AB.new_spec ?_
  rintro v M ⟨p, rfl, rfl⟩
  (refine hx_plain rfl ?_; refine h_assign rfl rfl rfl rfl ?_; refine hx_nil ?_; refine hq_then ?_; refine hc_seq ?_; refine hc_lex ?_; refine hx_plain rfl ?_)
  refine h_call rfl rfl rfl rfl rfl rfl rfl rfl EC.out .nil AI.new_spec ?_
  rintro v M ⟨q, rfl, rfl⟩
  (refine hx_plain rfl ?_; refine h_assign rfl rfl rfl rfl ?_; refine hx_nil ?_; refine hq_then ?_; refine hc_seq ?_; refine hc_seq ?_; refine hc_lex ?_; refine hx_plain rfl ?_; refine h_move rfl rfl rfl rfl ?_; refine hx_plain rfl ?_; refine h_eqNil rfl rfl rfl UC.out rfl rfl ?_; refine hx_plain rfl ?_; refine h_move rfl rfl rfl rfl ?_; refine hx_yes rfl rfl rfl ?_; refine h_move rfl rfl rfl rfl ?_; refine hx_yes rfl rfl rfl ?_; refine h_eqNil rfl rfl rfl UC.out rfl rfl ?_; refine hx_plain rfl ?_; refine h_pickF rfl rfl rfl rfl rfl ?_; refine hx_nil ?_; refine hq_then ?_; refine hc_condF rfl ?_; refine hc_skip ?_; refine hq_then ?_; refine hc_seq ?_; refine hc_seq ?_; refine hc_lex ?_; refine hx_plain rfl ?_; refine h_assign rfl rfl rfl rfl ?_; refine hx_nil ?_; refine hq_then ?_; refine hc_block ?_)
  refine hc_cut (id := 0) (Y := Unit) (fun _ => [(1, .int .i64 now), (5, .pointer (some ⟨p, 0, none⟩)), (6, .pointer (some ⟨q, 0, none⟩))]) (fun _ => [AB.AlO p (setsR (wrapP ps) (lim ps) e0), AlI q (setsR (wrapP ps) (lim ps) e0)]) (fun _ => True) ?_ ?_
  · refine hc_loop (X := Nat) (fun i => [(0, .slice a0 ps.length c0), (1, .int .i64 now), (5, .pointer (some ⟨p, 0, none⟩)), (6, .pointer (some ⟨q, 0, none⟩)), (7, .int .i64 (i : Int))]) (fun i => [AB.AlO p (setsR (wrapP ps) i e0), AlI q (setsR (wrapP ps) i e0)]) (fun i => i ≤ lim ps) (fun i => lim ps - i) 0 (.cons rfl (.cons rfl (.cons rfl (.cons rfl (.cons rfl .nil))))) (Nat.zero_le _) (fun _ h => h.sub (.cons (.tail .head) (.cons .head .nil))) ?_
    intro i hi
    by_cases hlt : i < lim ps
    · have hps : ps ≠ [] := by
        intro e
        have : ps.length = 0 := by rw [e]; rfl
        omega
      obtain ⟨g1, o1, rfl, r1⟩ := k0.resolve_left hps
      clear k0
      have hil : i < ps.length := by omega
      obtain ⟨t, ht⟩ : ∃ t, ps[i] = t := ⟨_, rfl⟩
      have e1 : ps[((i : Nat) : Int).toNat]? = some t := by rw [show ((i : Nat) : Int).toNat = i by omega, List.getElem?_eq_getElem hil, ht]
      have hinv := ha i (by omega)
      have hsucc : setsR (wrapP ps) (i + 1) e0 = (setsR (wrapP ps) i e0).set IT (IntKind.u8.wrap t.K) t.At := by
        rw [setsR_succ (by omega)]
        unfold wrapP
        rw [List.getElem_map, ht]
      have wI : IntKind.i64.wrap (IntKind.u8.wrap t.K) = IntKind.u8.wrap t.K := wrapI_in' (wrapU8 _)
      obtain ⟨A, hA⟩ : ∃ A, setsR (wrapP ps) i e0 = A := ⟨_, rfl⟩
      rw [hA] at hinv hsucc ⊢
      (refine hc_seq ?_; refine hc_seq ?_; refine hc_lex ?_; refine hx_plain rfl ?_; refine h_move rfl rfl rfl rfl ?_; refine hx_plain rfl ?_; refine h_move rfl rfl rfl rfl ?_; refine hx_plain rfl ?_; refine h_len_slice rfl rfl rfl UC.out rfl rfl rfl ?_; refine hx_plain rfl ?_; refine h_cmp rfl rfl rfl rfl rfl rfl ?_; refine hx_plain rfl ?_; refine h_move rfl rfl rfl rfl ?_; refine hx_gT rfl rfl rfl (by omega) ?_; refine hx_yes rfl rfl rfl ?_; refine h_move rfl rfl rfl rfl ?_; refine hx_yes rfl rfl rfl ?_; refine h_cmp rfl rfl rfl rfl rfl rfl ?_; refine hx_plain rfl ?_; refine h_pickT rfl rfl rfl rfl rfl ?_; refine hx_nil ?_; refine hq_then ?_; refine hc_condDT rfl (by omega) ?_; refine hc_skip ?_; refine hq_then ?_; refine hc_seq ?_; refine hc_block ?_; refine hc_seq ?_)
      refine hc_drawE (D := fun x => St w nowhere [] x) (fun i => Nat.beq i 12) [0, 1, 2, 3, 4, 5, 6, 7, 8, 9, 10, 11] [12] (by kernel_rfl) (by kernel_rfl) rfl (fun x h => h.emp) rfl ?_
      (refine hx_plain rfl ?_; refine h_move rfl rfl rfl rfl ?_; refine hx_plain rfl ?_; refine h_move rfl rfl rfl rfl ?_; refine hx_plain rfl ?_; refine h_move rfl rfl rfl rfl ?_; refine hx_plain rfl ?_; refine h_indexAddr rfl rfl rfl UC.out IC.size (by omega) (by omega) rfl rfl ?_; refine hx_plain rfl ?_; refine h_fieldAddr rfl rfl FC.out rfl rfl ?_; refine hx_plain rfl ?_; refine h_rdLoad rfl r1 rfl UC.out rfl (by with_reducible assumption) rfl rfl rfl ?_; refine hx_plain rfl ?_; refine h_convInt rfl rfl UC.out UC.out rfl rfl ?_; refine hx_plain rfl ?_; refine h_move rfl rfl rfl rfl ?_; refine hx_plain rfl ?_; refine h_move rfl rfl rfl rfl ?_; refine hx_plain rfl ?_; refine h_indexAddr rfl rfl rfl UC.out IC.size (by omega) (by omega) rfl rfl ?_; refine hx_plain rfl ?_; refine h_fieldAddr rfl rfl FC.out rfl rfl ?_; refine hx_plain rfl ?_; refine h_rdLoad rfl r1 rfl UC.out rfl (by with_reducible assumption) rfl rfl rfl ?_; refine hx_nil ?_)
      refine hd_call rfl rfl rfl rfl rfl rfl rfl rfl EC.out (.cons .head .nil) (AB.set_spec p A (IntKind.u8.wrap t.K) t.At (inv_b hinv.1).wf (by omega)) (fun v M hM x h => h.emp) ?_
      rintro v M ⟨rfl, rfl⟩
      refine hd_nil ?_
      rw [show AS.set AB.T A (IntKind.u8.wrap t.K) t.At = AS.set IT A (IntKind.u8.wrap t.K) t.At from set_b _ _ _]
      (refine hq_then ?_)
      refine hc_drawE (D := fun x => St w nowhere [] x) (fun i => Nat.beq i 13) [0, 1, 2, 3, 4, 5, 6, 7, 8, 9, 10, 11, 12] [13] (by kernel_rfl) (by kernel_rfl) rfl (fun x h => h.emp) rfl ?_
      (refine hx_plain rfl ?_; refine h_move rfl rfl rfl rfl ?_; refine hx_plain rfl ?_; refine h_move rfl rfl rfl rfl ?_; refine hx_plain rfl ?_; refine h_move rfl rfl rfl rfl ?_; refine hx_plain rfl ?_; refine h_indexAddr rfl rfl rfl UC.out IC.size (by omega) (by omega) rfl rfl ?_; refine hx_plain rfl ?_; refine h_fieldAddr rfl rfl FC.out rfl rfl ?_; refine hx_plain rfl ?_; refine h_rdLoad rfl r1 rfl UC.out rfl (by with_reducible assumption) rfl rfl rfl ?_; refine hx_plain rfl ?_; refine h_convInt rfl rfl UC.out UC.out rfl rfl ?_; refine hx_plain rfl ?_; refine h_convInt rfl rfl UC.out UC.out rfl rfl ?_; refine hx_plain rfl ?_; refine h_move rfl rfl rfl rfl ?_; refine hx_plain rfl ?_; refine h_move rfl rfl rfl rfl ?_; refine hx_plain rfl ?_; refine h_indexAddr rfl rfl rfl UC.out IC.size (by omega) (by omega) rfl rfl ?_; refine hx_plain rfl ?_; refine h_fieldAddr rfl rfl FC.out rfl rfl ?_; refine hx_plain rfl ?_; refine h_rdLoad rfl r1 rfl UC.out rfl (by with_reducible assumption) rfl rfl rfl ?_; refine hx_nil ?_)
      rw [wI]
      refine hd_call rfl rfl rfl rfl rfl rfl rfl rfl EC.out (.cons (.tail .head) .nil) (AI.set_spec q A (IntKind.u8.wrap t.K) t.At hinv.1.wf (by omega)) (fun v M hM x h => h.emp) ?_
      rintro v M ⟨rfl, rfl⟩
      refine hd_nil ?_
      (refine hq_norm_block ?_; refine hq_then ?_; refine hc_lex ?_; refine hx_plain rfl ?_; refine h_move rfl rfl rfl rfl ?_; refine hx_plain rfl ?_; refine h_arithI rfl rfl rfl rfl (by omega) rfl rfl ?_; refine hx_plain rfl ?_; refine h_assign rfl rfl rfl rfl ?_; refine hx_nil ?_)
      refine hq_round (i + 1) (by omega) (by omega) (.cons rfl (.cons rfl (.cons rfl (.cons rfl (.cons rfl .nil))))) (fun _ h => ?_)
      rw [hsucc]
      exact h.sub (.cons (.tail .head) (.cons .head .nil))
    · obtain rfl : i = lim ps := by omega
      (refine hc_seq ?_; refine hc_seq ?_; refine hc_lex ?_; refine hx_plain rfl ?_; refine h_move rfl rfl rfl rfl ?_; refine hx_plain rfl ?_; refine h_move rfl rfl rfl rfl ?_; refine hx_plain rfl ?_; refine h_len_slice rfl rfl rfl UC.out rfl rfl rfl ?_; refine hx_plain rfl ?_; refine h_cmp rfl rfl rfl rfl rfl rfl ?_; refine hx_plain rfl ?_; refine h_move rfl rfl rfl rfl ?_; refine hx_gcaseD rfl rfl rfl (fun hc => ?_) (fun hc => ?_); refine hx_yes rfl rfl rfl ?_; refine h_move rfl rfl rfl rfl ?_; refine hx_yes rfl rfl rfl ?_; refine h_cmp rfl rfl rfl rfl rfl rfl ?_; refine hx_plain rfl ?_; refine h_pickT rfl rfl rfl rfl rfl ?_; refine hx_nil ?_; refine hq_then ?_; refine hc_condDF rfl (by omega) ?_; refine hc_exit ?_; refine hq_exit_then ?_; refine hq_exit_then ?_; rotate_left; refine hx_skip rfl rfl rfl rfl rfl rfl ?_; refine hx_skip rfl rfl rfl rfl rfl rfl ?_; refine hx_plain rfl ?_; refine h_pickF rfl rfl rfl rfl rfl ?_; refine hx_nil ?_; refine hq_then ?_; refine hc_condF rfl ?_; refine hc_exit ?_; refine hq_exit_then ?_; refine hq_exit_then ?_; rotate_left)
      iterate 2 first | exact hq_cut () trivial (.cons rfl (.cons rfl (.cons rfl .nil))) (fun _ h => h) | skip
  rintro ⟨⟩ _
  have hinv := ha (lim ps) (by omega)
  have hkey := wrapP_key (ps := ps) (n := lim ps) (by omega)
  obtain ⟨A, hA⟩ : ∃ A, setsR (wrapP ps) (lim ps) e0 = A := ⟨_, rfl⟩
  rw [hA] at hinv hkey ⊢
  (refine hq_exit_block ?_; refine hq_then ?_; refine hc_seq ?_; refine hc_lex ?_; refine hx_plain rfl ?_; refine h_move rfl rfl rfl rfl ?_; refine hx_plain rfl ?_)
  refine h_call rfl rfl rfl rfl rfl rfl rfl rfl EC.out (.cons .head .nil) (AB.next_spec p A) ?_
  rintro v M ⟨rfl, rfl⟩
  (refine hx_plain rfl ?_; refine h_move rfl rfl rfl rfl ?_; refine hx_plain rfl ?_; refine h_extract rfl rfl rfl rfl rfl ?_; refine hx_plain rfl ?_; refine h_extract rfl rfl rfl rfl rfl ?_; refine hx_plain rfl ?_; refine h_extract rfl rfl rfl rfl rfl ?_; refine hx_plain rfl ?_; refine h_assign rfl rfl rfl rfl ?_; refine hx_plain rfl ?_; refine h_assign rfl rfl rfl rfl ?_; refine hx_plain rfl ?_; refine h_assign rfl rfl rfl rfl ?_; refine hx_nil ?_; refine hq_then ?_; refine hc_seq ?_; refine hc_lex ?_; refine hx_plain rfl ?_; refine h_move rfl rfl rfl rfl ?_; refine hx_plain rfl ?_)
  refine h_call rfl rfl rfl rfl rfl rfl rfl rfl EC.out (.cons (.tail .head) .nil) (AI.next_spec q A) ?_
  rintro v M ⟨rfl, rfl⟩
  rw [show tz AB.T = tz IT from rfl]
  have hk0 : 0 ≤ (A.xs.getD 0 (tz IT)).k ∧ (A.xs.getD 0 (tz IT)).k ≤ 255 := by
    by_cases h0 : 0 < A.xs.length
    · exact hkey _ (fst_mem h0)
    · rw [List.eq_nil_of_length_eq_zero (by omega : A.xs.length = 0)]
      decide
  obtain ⟨z, hz⟩ : ∃ z, A.xs.getD 0 (tz IT) = z := ⟨_, rfl⟩
  rw [hz] at hk0 ⊢
  have wz := wrapI_in' hk0
  have hdk := due_key hinv.1 hkey now
  have hdl := due_len hinv.1 now
  (refine hx_plain rfl ?_; refine h_move rfl rfl rfl rfl ?_; refine hx_plain rfl ?_; refine h_extract rfl rfl rfl rfl rfl ?_; refine hx_plain rfl ?_; refine h_extract rfl rfl rfl rfl rfl ?_; refine hx_plain rfl ?_; refine h_extract rfl rfl rfl rfl rfl ?_; refine hx_plain rfl ?_; refine h_assign rfl rfl rfl rfl ?_; refine hx_plain rfl ?_; refine h_assign rfl rfl rfl rfl ?_; refine hx_plain rfl ?_; refine h_assign rfl rfl rfl rfl ?_; refine hx_nil ?_; refine hq_then ?_; refine hc_seq ?_; refine hc_lex ?_; refine hx_plain rfl ?_; refine h_move rfl rfl rfl rfl ?_; refine hx_plain rfl ?_; refine h_move rfl rfl rfl rfl ?_; refine hx_plain rfl ?_)
  refine h_call rfl rfl rfl rfl rfl rfl rfl rfl EC.out (.cons (.tail .head) .nil) (AB.due_spec p A now (inv_b hinv.1) (by omega)) ?_
  rintro vb M rfl
  rw [show AS.due AB.T A now = AS.due IT A now from due_b _ _]
  (refine hx_plain rfl ?_; refine h_assign rfl rfl rfl rfl ?_; refine hx_nil ?_; refine hq_then ?_; refine hc_seq ?_; refine hc_lex ?_; refine hx_plain rfl ?_; refine h_move rfl rfl rfl rfl ?_; refine hx_plain rfl ?_; refine h_move rfl rfl rfl rfl ?_; refine hx_plain rfl ?_)
  refine h_call rfl rfl rfl rfl rfl rfl rfl rfl EC.out (.cons (.tail (.tail .head)) .nil) (AI.due_spec q A now hinv.1 (by omega)) ?_
  rintro vi M rfl
  obtain ⟨ks, hks⟩ : ∃ ks, (A.due IT now).1 = ks := ⟨_, rfl⟩
  obtain ⟨B, hB⟩ : ∃ B, (A.due IT now).2 = B := ⟨_, rfl⟩
  rw [show AS.due AI.T A now = AS.due IT A now from rfl]
  rw [hks] at hdk hdl ⊢
  rw [hB]
  (refine hx_plain rfl ?_; refine h_assign rfl rfl rfl rfl ?_; refine hx_nil ?_; refine hq_then ?_; refine hc_seq ?_; refine hc_seq ?_; refine hc_lex ?_; refine hx_plain rfl ?_; refine h_move rfl rfl rfl rfl ?_; refine hx_plain rfl ?_; refine h_convInt rfl rfl UC.out UC.out rfl rfl ?_; refine hx_plain rfl ?_; refine h_move rfl rfl rfl rfl ?_; refine hx_plain rfl ?_; refine h_cmp rfl rfl rfl rfl rfl rfl ?_; refine hx_plain rfl ?_; refine h_move rfl rfl rfl rfl ?_; refine hx_gF rfl rfl rfl (by omega) ?_; refine hx_yes rfl rfl rfl ?_; refine h_move rfl rfl rfl rfl ?_; refine hx_yes rfl rfl rfl ?_; refine h_move rfl rfl rfl rfl ?_; refine hx_yes rfl rfl rfl ?_; refine h_cmp rfl rfl rfl rfl rfl rfl ?_; refine hx_plain rfl ?_; refine h_pickF rfl rfl rfl rfl rfl ?_; refine hx_plain rfl ?_; refine h_move rfl rfl rfl rfl ?_; refine hx_gF rfl rfl rfl (by omega) ?_; refine hx_yes rfl rfl rfl ?_; refine h_move rfl rfl rfl rfl ?_; refine hx_yes rfl rfl rfl ?_; refine h_move rfl rfl rfl rfl ?_; refine hx_yes rfl rfl rfl ?_; refine h_cmpB rfl rfl rfl UC.out rfl rfl rfl ?_; refine hx_plain rfl ?_; refine h_pickF rfl rfl rfl rfl rfl ?_; refine hx_plain rfl ?_; refine h_move rfl rfl rfl rfl ?_; refine hx_gcase rfl rfl rfl (fun hc => ?_) (fun hc => ?_); refine hx_skip rfl rfl rfl rfl rfl rfl ?_; refine hx_skip rfl rfl rfl rfl rfl rfl ?_; refine hx_skip rfl rfl rfl rfl rfl rfl ?_; refine hx_skip rfl rfl rfl rfl rfl rfl ?_; refine hx_skip rfl rfl rfl rfl rfl rfl ?_; refine hx_plain rfl ?_; refine h_pickT rfl rfl rfl rfl rfl ?_; refine hx_plain rfl ?_; refine h_move rfl rfl rfl rfl ?_; refine hx_skip rfl rfl rfl rfl rfl rfl ?_; refine hx_skip rfl rfl rfl rfl rfl rfl ?_; refine hx_skip rfl rfl rfl rfl rfl rfl ?_; refine hx_skip rfl rfl rfl rfl rfl rfl ?_; refine hx_skip rfl rfl rfl rfl rfl rfl ?_; refine hx_plain rfl ?_; refine h_pickT rfl rfl rfl rfl rfl ?_; refine hx_nil ?_; refine hq_then ?_; refine hc_condT rfl ?_; refine hc_seq ?_; refine hc_lex ?_; refine hx_plain rfl ?_; refine h_assign rfl rfl rfl rfl ?_; refine hx_nil ?_; refine hq_then ?_; refine hc_ret ?_; refine hq_ret_then ?_; rotate_left; refine hx_yes rfl rfl rfl ?_; refine h_move rfl rfl rfl rfl ?_; refine hx_yes rfl rfl rfl ?_; rotate_left)
  · simp at hc
  refine h_lenV rfl rfl (.tail (.tail (.tail .head))) rfl UC.out rfl rfl rfl ?_
  (refine hx_yes rfl rfl rfl ?_; refine h_move rfl rfl rfl rfl ?_; refine hx_yes rfl rfl rfl ?_)
  refine h_lenV rfl rfl (.tail .head) rfl UC.out rfl rfl rfl ?_
  (refine hx_yes rfl rfl rfl ?_; refine h_cmp rfl rfl rfl rfl rfl rfl ?_; refine hx_plain rfl ?_; refine h_pickF rfl rfl rfl rfl rfl ?_; refine hx_plain rfl ?_; refine h_move rfl rfl rfl rfl ?_; refine hx_gF rfl rfl rfl (by omega) ?_; refine hx_yes rfl rfl rfl ?_; refine h_move rfl rfl rfl rfl ?_; refine hx_yes rfl rfl rfl ?_)
  refine h_call rfl rfl rfl rfl rfl rfl rfl rfl EC.out (.cons (.tail (.tail .head)) .nil) (AB.len_spec p B) ?_
  rintro v M ⟨rfl, rfl⟩
  (refine hx_yes rfl rfl rfl ?_; refine h_move rfl rfl rfl rfl ?_; refine hx_yes rfl rfl rfl ?_)
  refine h_call rfl rfl rfl rfl rfl rfl rfl rfl EC.out (.cons (.tail .head) .nil) (AI.len_spec q B) ?_
  rintro v M ⟨rfl, rfl⟩
  (refine hx_yes rfl rfl rfl ?_; refine h_cmp rfl rfl rfl rfl rfl rfl ?_; refine hx_plain rfl ?_; refine h_pickF rfl rfl rfl rfl rfl ?_; refine hx_nil ?_; refine hq_then ?_; refine hc_condDF rfl (by omega) ?_; refine hc_skip ?_; refine hq_then ?_; refine hc_seq ?_; refine hc_seq ?_; refine hc_lex ?_; refine hx_plain rfl ?_; refine h_assign rfl rfl rfl rfl ?_; refine hx_nil ?_; refine hq_then ?_; refine hc_block ?_)
  refine hc_cut (id := 2) (Y := Unit) (fun _ => []) (fun _ => []) (fun _ => True) ?_ ?_
  · refine hc_loop (X := Nat) (fun i => [(14, vb), (15, vi), (16, .int .i64 (i : Int))]) (fun i => [RowV AI.keyE 3 vi ks, RowV AB.keyE 5 vb ks]) (fun i => i ≤ ks.length) (fun i => ks.length - i) 0 (.cons rfl (.cons rfl (.cons rfl .nil))) (Nat.zero_le _) (fun _ h => h.sub (.cons (.tail (.tail .head)) (.cons (.tail (.tail .head)) .nil))) ?_
    intro i hi
    by_cases hlt : i < ks.length
    · refine hc_rowV .head (fun _ e => by rw [e] at hlt; exact absurd hlt (Nat.not_lt_zero _)) ?_
      rintro g1 c1 rfl
      refine hc_rowV (.tail .head) (fun _ e => by rw [e] at hlt; exact absurd hlt (Nat.not_lt_zero _)) ?_
      rintro g2 c2 rfl
      obtain ⟨x, hx⟩ : ∃ x, ks[i] = x := ⟨_, rfl⟩
      have e1 : ks[((i : Nat) : Int).toNat]? = some x := by rw [show ((i : Nat) : Int).toNat = i by omega, List.getElem?_eq_getElem hlt, hx]
      have wx : IntKind.i64.wrap x = x := wrapI_in' (hdk x (by rw [← hx]; exact List.getElem_mem hlt))
      (refine hc_seq ?_; refine hc_seq ?_; refine hc_lex ?_; refine hx_plain rfl ?_; refine h_move rfl rfl rfl rfl ?_; refine hx_plain rfl ?_; refine h_move rfl rfl rfl rfl ?_; refine hx_plain rfl ?_; refine h_len_slice rfl rfl rfl UC.out rfl rfl rfl ?_; refine hx_plain rfl ?_; refine h_cmp rfl rfl rfl rfl rfl rfl ?_; refine hx_nil ?_; refine hq_then ?_; refine hc_condDT rfl (by omega) ?_; refine hc_skip ?_; refine hq_then ?_; refine hc_seq ?_; refine hc_block ?_; refine hc_seq ?_)
      refine hc_drawE (D := fun y => St w nowhere [Row AB.keyE 5 g2 c2 ks, Row AI.keyE 3 g1 c1 ks] y) (fun _ => false) [0, 1, 2, 3, 4, 5, 6, 7, 8, 9] [] (by kernel_rfl) (by kernel_rfl) rfl (fun x h => h) rfl ?_
      (refine hx_plain rfl ?_; refine h_move rfl rfl rfl rfl ?_; refine hx_plain rfl ?_; refine h_move rfl rfl rfl rfl ?_; refine hx_plain rfl ?_; refine h_rowAddr rfl rfl rfl UC.out IC.size (by omega) (by omega) rfl rfl ?_; refine hx_plain rfl ?_; refine h_rowLoad1 rfl .head rfl UC.out rfl (by with_reducible assumption) rfl rfl rfl ?_; refine hx_plain rfl ?_; refine h_convInt rfl rfl UC.out UC.out rfl rfl ?_; refine hx_plain rfl ?_; refine h_move rfl rfl rfl rfl ?_; refine hx_plain rfl ?_; refine h_move rfl rfl rfl rfl ?_; refine hx_plain rfl ?_; refine h_rowAddr rfl rfl rfl UC.out IC.size (by omega) (by omega) rfl rfl ?_; refine hx_plain rfl ?_; refine h_rowLoad1 rfl (.tail .head) rfl UC.out rfl (by with_reducible assumption) rfl rfl rfl ?_; refine hx_plain rfl ?_; refine h_cmp rfl rfl rfl rfl rfl rfl ?_; refine hx_nil ?_)
      refine hd_nil ?_
      (refine hq_then ?_; refine hc_condDF rfl (by omega) ?_; refine hc_skip ?_; refine hq_norm_block ?_; refine hq_then ?_; refine hc_lex ?_; refine hx_plain rfl ?_; refine h_move rfl rfl rfl rfl ?_; refine hx_plain rfl ?_; refine h_arithI rfl rfl rfl rfl (by omega) rfl rfl ?_; refine hx_plain rfl ?_; refine h_assign rfl rfl rfl rfl ?_; refine hx_nil ?_)
      exact hq_round (i + 1) (by omega) (by omega) (.cons rfl (.cons rfl (.cons rfl .nil))) (fun _ h => ((h.rowV_mk).perm (List.Perm.swap _ _ _)).rowV_mk)
    · (refine hc_seq ?_; refine hc_seq ?_; refine hc_lex ?_; refine hx_plain rfl ?_; refine h_move rfl rfl rfl rfl ?_; refine hx_plain rfl ?_; refine h_move rfl rfl rfl rfl ?_; refine hx_plain rfl ?_)
      refine h_lenV rfl rfl (.tail .head) rfl UC.out rfl rfl rfl ?_
      (refine hx_plain rfl ?_; refine h_cmp rfl rfl rfl rfl rfl rfl ?_; refine hx_nil ?_; refine hq_then ?_; refine hc_condDF rfl (by omega) ?_; refine hc_exit ?_; refine hq_exit_then ?_; refine hq_exit_then ?_)
      exact hq_cut () trivial .nil (fun _ h => h.emp)
  rintro ⟨⟩ _
  (refine hq_exit_block ?_; refine hq_then ?_; refine hc_seq ?_; refine hc_lex ?_; refine hx_plain rfl ?_; refine h_assign rfl rfl rfl rfl ?_; refine hx_nil ?_; refine hq_then ?_; refine hc_ret ?_)
  exact hq_ret1 (.inr rfl) rfl rfl ⟨rfl, rfl⟩ (fun _ h => h)
end Go.Proofs.Ytggohplddejniaa
