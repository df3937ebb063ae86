import Derived.Test.YtggohplddejniaaA4I
namespace Go.Proofs.Ytggohplddejniaa
open Go Go.Proofs
set_option maxRecDepth 4000

abbrev intE : Elem Int := AI.keyE
set_option maxHeartbeats 1000000 in
theorem sameInts {xs ys : List Int} {w : World} {v1 v2 : Value} (h1 : Rd intE w v1 xs) (h2 : Rd intE w v2 ys) :
    Calls Try.prog 37 [v1, v2].toArray w (fun en w' => en = .returned (.bool (decide (xs = ys))) ∧ But w w' nowhere) := by
  obtain ⟨a1, c1, rfl, l1, m1, k1⟩ := h1
  obtain ⟨a2, c2, rfl, l2, m2, k2⟩ := h2
  unfold maxLen at m1 m2
  refine reads_of Try.func37 rfl rfl (Nat.le_of_ble_eq_true rfl) ?_
  by_cases hlen : xs.length = ys.length
  · by_cases hx : xs = []
    · have hy : ys = [] := List.eq_nil_of_length_eq_zero (by rw [← hlen, hx]; rfl)
      subst hx hy
      (refine hc_seq ?_; refine hc_lex ?_; refine hx_plain rfl ?_; refine h_assign rfl rfl rfl rfl ?_; refine hx_nil ?_; refine hq_then ?_; refine hc_seq ?_; refine hc_seq ?_; refine hc_lex ?_; refine hx_plain rfl ?_; refine h_move rfl rfl rfl rfl ?_; refine hx_plain rfl ?_; refine h_len_slice rfl rfl rfl UC.out rfl rfl rfl ?_; refine hx_plain rfl ?_; refine h_move rfl rfl rfl rfl ?_; refine hx_plain rfl ?_; refine h_len_slice rfl rfl rfl UC.out rfl rfl rfl ?_; refine hx_plain rfl ?_; refine h_cmp rfl rfl rfl rfl rfl rfl ?_; refine hx_nil ?_; refine hq_then ?_; refine hc_condF rfl ?_; refine hc_skip ?_; refine hq_then ?_; refine hc_seq ?_; refine hc_seq ?_; refine hc_lex ?_; refine hx_plain rfl ?_; refine h_assign rfl rfl rfl rfl ?_; refine hx_nil ?_; refine hq_then ?_; refine hc_block ?_)
      refine hc_loop (X := Nat) (fun i => [(0, .slice a1 0 c1), (5, .int .i64 (i : Int))]) (fun _ => []) (fun i => i = 0) (fun _ => 0) 0 (.cons rfl (.cons rfl .nil)) rfl (fun _ h => h) ?_
      rintro i rfl
      (refine hc_seq ?_; refine hc_seq ?_; refine hc_lex ?_; refine hx_plain rfl ?_; refine h_move rfl rfl rfl rfl ?_; refine hx_plain rfl ?_; refine h_move rfl rfl rfl rfl ?_; refine hx_plain rfl ?_; refine h_len_slice rfl rfl rfl UC.out rfl rfl rfl ?_; refine hx_plain rfl ?_; refine h_cmp rfl rfl rfl rfl rfl rfl ?_; refine hx_nil ?_; refine hq_then ?_; refine hc_condF rfl ?_; refine hc_exit ?_; refine hq_exit_then ?_; refine hq_exit_then ?_; refine hq_exit_block ?_; refine hq_then ?_; refine hc_seq ?_; refine hc_lex ?_; refine hx_plain rfl ?_; refine h_assign rfl rfl rfl rfl ?_; refine hx_nil ?_; refine hq_then ?_; refine hc_ret ?_)
      refine hq_ret1 (.inr rfl) rfl rfl ⟨by simp, rfl⟩ (fun _ h => h.emp)
    · have hy : ys ≠ [] := fun e => hx (List.eq_nil_of_length_eq_zero (by rw [hlen, e]; rfl))
      obtain ⟨g1, o1, rfl, r1⟩ := k1.resolve_left hx
      obtain ⟨g2, o2, rfl, r2⟩ := k2.resolve_left hy
      clear k1 k2 hx hy
      (refine hc_seq ?_; refine hc_lex ?_; refine hx_plain rfl ?_; refine h_assign rfl rfl rfl rfl ?_; refine hx_nil ?_; refine hq_then ?_; refine hc_seq ?_; refine hc_seq ?_; refine hc_lex ?_; refine hx_plain rfl ?_; refine h_move rfl rfl rfl rfl ?_; refine hx_plain rfl ?_; refine h_len_slice rfl rfl rfl UC.out rfl rfl rfl ?_; refine hx_plain rfl ?_; refine h_move rfl rfl rfl rfl ?_; refine hx_plain rfl ?_; refine h_len_slice rfl rfl rfl UC.out rfl rfl rfl ?_; refine hx_plain rfl ?_; refine h_cmp rfl rfl rfl rfl rfl rfl ?_; refine hx_nil ?_; refine hq_then ?_; refine hc_condDF rfl (by omega) ?_; refine hc_skip ?_; refine hq_then ?_; refine hc_seq ?_; refine hc_seq ?_; refine hc_lex ?_; refine hx_plain rfl ?_; refine h_assign rfl rfl rfl rfl ?_; refine hx_nil ?_; refine hq_then ?_; refine hc_block ?_)
      refine hc_loop (X := Nat) (fun i => [(0, .slice (some ⟨g1, o1, none⟩) xs.length c1), (1, .slice (some ⟨g2, o2, none⟩) ys.length c2), (5, .int .i64 (i : Int))]) (fun _ => []) (fun i => i ≤ xs.length ∧ ∀ j, j < i → xs[j]? = ys[j]?) (fun i => xs.length - i) 0 (.cons rfl (.cons rfl (.cons rfl .nil))) ⟨Nat.zero_le _, fun j hj => absurd hj (Nat.not_lt_zero j)⟩ (fun _ h => h) ?_
      rintro i ⟨hi, he⟩
      by_cases hlt : i < xs.length
      · have e1 : xs[((i : Nat) : Int).toNat]? = some xs[i] := List.getElem?_eq_getElem hlt
        have e2 : ys[((i : Nat) : Int).toNat]? = some (ys[i]'(by omega)) := List.getElem?_eq_getElem (by omega)
        (refine hc_seq ?_; refine hc_seq ?_; refine hc_lex ?_; refine hx_plain rfl ?_; refine h_move rfl rfl rfl rfl ?_; refine hx_plain rfl ?_; refine h_move rfl rfl rfl rfl ?_; refine hx_plain rfl ?_; refine h_len_slice rfl rfl rfl UC.out rfl rfl rfl ?_; refine hx_plain rfl ?_; refine h_cmp rfl rfl rfl rfl rfl rfl ?_; refine hx_nil ?_; refine hq_then ?_; refine hc_condDT rfl (by omega) ?_; refine hc_skip ?_; refine hq_then ?_; refine hc_seq ?_; refine hc_block ?_; refine hc_seq ?_; refine hc_draw0 (by kernel_rfl) (by kernel_rfl) ?_; refine hx_plain rfl ?_; refine h_move rfl rfl rfl rfl ?_; refine hx_plain rfl ?_; refine h_move rfl rfl rfl rfl ?_; refine hx_plain rfl ?_; refine h_indexAddr rfl rfl rfl UC.out IC.size (by omega) (by omega) rfl rfl ?_; refine hx_plain rfl ?_; refine h_rdLoad1 rfl r1 rfl UC.out rfl (by with_reducible assumption) rfl rfl rfl ?_; refine hx_plain rfl ?_; refine h_move rfl rfl rfl rfl ?_; refine hx_plain rfl ?_; refine h_move rfl rfl rfl rfl ?_; refine hx_plain rfl ?_; refine h_indexAddr rfl rfl rfl UC.out IC.size (by omega) (by omega) rfl rfl ?_; refine hx_plain rfl ?_; refine h_rdLoad1 rfl r2 rfl UC.out rfl (by with_reducible assumption) rfl rfl rfl ?_; refine hx_plain rfl ?_; refine h_cmp rfl rfl rfl rfl rfl rfl ?_; refine hx_nil ?_; refine hq_then ?_; refine hc_condD rfl (fun hc => ?_) (fun hc => ?_); refine hc_seq ?_; refine hc_lex ?_; refine hx_plain rfl ?_; refine h_assign rfl rfl rfl rfl ?_; refine hx_nil ?_; refine hq_then ?_; refine hc_ret ?_; refine hq_ret_block ?_; refine hq_ret_then ?_; refine hq_ret_then ?_; refine hq_ret_block ?_; refine hq_ret_then ?_; rotate_left; refine hc_skip ?_; refine hq_norm_block ?_; refine hq_then ?_; refine hc_lex ?_; refine hx_plain rfl ?_; refine h_move rfl rfl rfl rfl ?_; refine hx_plain rfl ?_; refine h_arithI rfl rfl rfl rfl (by omega) rfl rfl ?_; refine hx_plain rfl ?_; refine h_assign rfl rfl rfl rfl ?_; refine hx_nil ?_; rotate_left)
        · refine hq_ret1 (.inr rfl) rfl rfl ⟨?_, rfl⟩ (fun _ h => h.emp)
          rw [decide_eq_false (fun e => hc (by simp only [e]))]
        · have hc' : xs[i] = ys[i]'(by omega) := by simpa using hc
          refine hq_round (i + 1) (by omega) ⟨by omega, fun j hj => ?_⟩ (.cons rfl (.cons rfl (.cons (by show some _ = some _; congr 2) .nil))) (fun _ h => h)
          by_cases e : j = i
          · subst e
            rw [List.getElem?_eq_getElem hlt, List.getElem?_eq_getElem (by omega), hc']
          · exact he j (by omega)
      · (refine hc_seq ?_; refine hc_seq ?_; refine hc_lex ?_; refine hx_plain rfl ?_; refine h_move rfl rfl rfl rfl ?_; refine hx_plain rfl ?_; refine h_move rfl rfl rfl rfl ?_; refine hx_plain rfl ?_; refine h_len_slice rfl rfl rfl UC.out rfl rfl rfl ?_; refine hx_plain rfl ?_; refine h_cmp rfl rfl rfl rfl rfl rfl ?_; refine hx_nil ?_; refine hq_then ?_; refine hc_condDF rfl (by omega) ?_; refine hc_exit ?_; refine hq_exit_then ?_; refine hq_exit_then ?_; refine hq_exit_block ?_; refine hq_then ?_; refine hc_seq ?_; refine hc_lex ?_; refine hx_plain rfl ?_; refine h_assign rfl rfl rfl rfl ?_; refine hx_nil ?_; refine hq_then ?_; refine hc_ret ?_)
        refine hq_ret1 (.inr rfl) rfl rfl ⟨?_, rfl⟩ (fun _ h => h.emp)
        have : xs = ys := List.ext_getElem? (fun j => by
          rcases Nat.lt_or_ge j i with hj | hj
          · exact he j hj
          · rw [List.getElem?_eq_none (by omega), List.getElem?_eq_none (by omega)])
        rw [decide_eq_true this]
  · (refine hc_seq ?_; refine hc_lex ?_; refine hx_plain rfl ?_; refine h_assign rfl rfl rfl rfl ?_; refine hx_nil ?_; refine hq_then ?_; refine hc_seq ?_; refine hc_seq ?_; refine hc_lex ?_; refine hx_plain rfl ?_; refine h_move rfl rfl rfl rfl ?_; refine hx_plain rfl ?_; refine h_len_slice rfl rfl rfl UC.out rfl rfl rfl ?_; refine hx_plain rfl ?_; refine h_move rfl rfl rfl rfl ?_; refine hx_plain rfl ?_; refine h_len_slice rfl rfl rfl UC.out rfl rfl rfl ?_; refine hx_plain rfl ?_; refine h_cmp rfl rfl rfl rfl rfl rfl ?_; refine hx_nil ?_; refine hq_then ?_; refine hc_condDT rfl (by omega) ?_; refine hc_seq ?_; refine hc_lex ?_; refine hx_plain rfl ?_; refine h_assign rfl rfl rfl rfl ?_; refine hx_nil ?_; refine hq_then ?_; refine hc_ret ?_; refine hq_ret_then ?_)
    refine hq_ret1 (.inr rfl) rfl rfl ⟨?_, rfl⟩ (fun _ h => h.emp)
    rw [decide_eq_false (fun e => hlen (by rw [e]))]
end Go.Proofs.Ytggohplddejniaa
