import Derived.Test.YtbfmmgbfliebhaaN15
namespace Go.Proofs.Ytbfmmgbfliebhaa
open Go Go.Proofs Go.RowKit
set_option maxRecDepth 4000

set_option maxHeartbeats 4000000 in
theorem holds_reads {kv : Value} {ents : List KtM} {w : World} (h1 : Rd ktE w kv ents) (h2 : ∀ q ∈ ents, Rd byteE w q.sl.v (List.replicate q.n q.mark)) :
    Calls Try.prog 27 [kv].toArray w (fun en w' => en = .returned (.bool true) ∧ But w w' nowhere) := by
  obtain ⟨a1, c1, rfl, l1, m1, k1⟩ := h1
  refine reads_of Try.func27 rfl rfl (Nat.le_of_ble_eq_true rfl) ?_
  (refine hc_seq ?_; refine hc_lex ?_; refine hx_plain rfl ?_; refine h_assign rfl rfl rfl rfl ?_; refine hx_nil ?_; refine hq_then ?_; refine hc_seq ?_; refine hc_seq ?_; refine hc_lex ?_; refine hx_plain rfl ?_; refine h_assign rfl rfl rfl rfl ?_; refine hx_nil ?_; refine hq_then ?_; refine hc_block ?_)
  refine hc_cut (id := 0) (Y := Unit) (fun _ => []) (fun _ => []) (fun _ => True) ?_ ?_
  · refine hc_loop (X := Nat) (fun i => [(0, .slice a1 ents.length c1), (3, .int .i64 (i : Int))]) (fun _ => []) (fun i => i ≤ ents.length) (fun i => ents.length - i) 0 (.cons rfl (.cons rfl .nil)) (Nat.zero_le _) (fun _ h => h) ?_
    intro i hi
    by_cases hlt : i < ents.length
    · have hxs : ents ≠ [] := by
        intro e
        rw [e] at hlt
        exact absurd hlt (Nat.not_lt_zero _)
      obtain ⟨g1, o1, rfl, r1⟩ := k1.resolve_left hxs
      obtain ⟨⟨⟨sa, sn, sc⟩, mk, n⟩, hq⟩ : ∃ q, ents[i]? = some q := ⟨_, List.getElem?_eq_getElem hlt⟩
      have e1 : ents[((i : Nat) : Int).toNat]? = some ⟨⟨sa, sn, sc⟩, mk, n⟩ := hq
      obtain ⟨a2, c2, he, l2, m2, k2⟩ := h2 _ (List.mem_iff_getElem?.2 ⟨i, hq⟩)
      rw [List.length_replicate] at l2 he
      dsimp only [SlV.v] at he
      injection he with he1 he2 he3
      subst he1 he2 he3
      unfold maxLen at m1 m2
      dsimp only at l2 k2
      (refine hc_seq ?_; refine hc_seq ?_; refine hc_lex ?_; refine hx_plain rfl ?_; refine h_move rfl rfl rfl rfl ?_; refine hx_plain rfl ?_; refine h_move rfl rfl rfl rfl ?_; refine hx_plain rfl ?_; refine h_len_slice rfl rfl rfl UC.out rfl rfl rfl ?_; refine hx_plain rfl ?_; refine h_cmp rfl rfl rfl rfl rfl rfl ?_; refine hx_nil ?_; refine hq_then ?_; refine hc_condDT rfl (by omega) ?_; refine hc_skip ?_; refine hq_then ?_; refine hc_seq ?_; refine hc_block ?_; refine hc_seq ?_; refine hc_seq ?_; refine hc_draw0 (by kernel_rfl) (by kernel_rfl) ?_; refine hx_plain rfl ?_; refine h_move rfl rfl rfl rfl ?_; refine hx_plain rfl ?_; refine h_move rfl rfl rfl rfl ?_; refine hx_plain rfl ?_; refine h_indexAddr rfl rfl rfl UC.out IC.size (by omega) (by omega) rfl rfl ?_; refine hx_plain rfl ?_; refine h_fieldAddr rfl rfl FC.out rfl rfl ?_; refine hx_plain rfl ?_; refine h_rdLoad rfl r1 rfl UC.out rfl (by with_reducible assumption) rfl rfl rfl ?_; refine hx_plain rfl ?_; refine h_len_slice rfl rfl rfl UC.out rfl rfl rfl ?_; refine hx_plain rfl ?_; refine h_move rfl rfl rfl rfl ?_; refine hx_plain rfl ?_; refine h_move rfl rfl rfl rfl ?_; refine hx_plain rfl ?_; refine h_indexAddr rfl rfl rfl UC.out IC.size (by omega) (by omega) rfl rfl ?_; refine hx_plain rfl ?_; refine h_fieldAddr rfl rfl FC.out rfl rfl ?_; refine hx_plain rfl ?_; refine h_rdLoad rfl r1 rfl UC.out rfl (by with_reducible assumption) rfl rfl rfl ?_; refine hx_plain rfl ?_; refine h_cmp rfl rfl rfl rfl rfl rfl ?_; refine hx_nil ?_; refine hq_then ?_; refine hc_condD rfl (fun hc => ?_) (fun hc => ?_); refine hc_seq ?_; refine hc_lex ?_; refine hx_plain rfl ?_; refine h_assign rfl rfl rfl rfl ?_; refine hx_nil ?_; refine hq_then ?_; refine hc_ret ?_; refine hq_ret_then ?_; refine hq_ret_block ?_; refine hq_ret_then ?_; refine hq_ret_then ?_; refine hq_cut_ret ?_; refine hq_ret_block ?_; refine hq_ret_then ?_; rotate_left; refine hc_skip ?_; refine hq_then ?_; refine hc_seq ?_; refine hc_lex ?_; refine hx_plain rfl ?_; refine h_assign rfl rfl rfl rfl ?_; refine hx_nil ?_; refine hq_then ?_; refine hc_block ?_; rotate_left)
      any_goals (exfalso; dsimp only at hc; omega)
      refine hc_cut (id := 2) (Y := Unit) (fun _ => [(0, .slice (some ⟨g1, o1, none⟩) ents.length c1), (3, .int .i64 (i : Int))]) (fun _ => []) (fun _ => True) ?_ ?_
      · refine hc_loop (X := Nat) (fun j => [(0, .slice (some ⟨g1, o1, none⟩) ents.length c1), (3, .int .i64 (i : Int)), (4, .int .i64 (j : Int))]) (fun _ => []) (fun j => j ≤ sn) (fun j => sn - j) 0 (.cons rfl (.cons rfl (.cons rfl .nil))) (Nat.zero_le _) (fun _ h => h) ?_
        intro j hj
        by_cases hjl : j < sn
        · obtain ⟨g2, o2, rfl, r2⟩ := k2.resolve_left (by
            intro e
            have := congrArg List.length e
            rw [List.length_replicate] at this
            have h0 : sn = 0 := this
            omega)
          have e2 : (List.replicate sn mk)[((j : Nat) : Int).toNat]? = some mk := by simp [hjl]
          (refine hc_seq ?_; refine hc_seq ?_; refine hc_lex ?_; refine hx_plain rfl ?_; refine h_move rfl rfl rfl rfl ?_; refine hx_plain rfl ?_; refine h_move rfl rfl rfl rfl ?_; refine hx_plain rfl ?_; refine h_move rfl rfl rfl rfl ?_; refine hx_plain rfl ?_; refine h_indexAddr rfl rfl rfl UC.out IC.size (by omega) (by omega) rfl rfl ?_; refine hx_plain rfl ?_; refine h_fieldAddr rfl rfl FC.out rfl rfl ?_; refine hx_plain rfl ?_; refine h_rdLoad rfl r1 rfl UC.out rfl (by with_reducible assumption) rfl rfl rfl ?_; refine hx_plain rfl ?_; refine h_cmp rfl rfl rfl rfl rfl rfl ?_; refine hx_nil ?_; refine hq_then ?_; refine hc_condD rfl (fun hc => ?_) (fun hc => ?_); refine hc_skip ?_; refine hq_then ?_; refine hc_seq ?_; refine hc_block ?_; refine hc_seq ?_; refine hc_draw0 (by kernel_rfl) (by kernel_rfl) ?_; refine hx_plain rfl ?_; refine h_move rfl rfl rfl rfl ?_; refine hx_plain rfl ?_; refine h_move rfl rfl rfl rfl ?_; refine hx_plain rfl ?_; refine h_indexAddr rfl rfl rfl UC.out IC.size (by omega) (by omega) rfl rfl ?_; refine hx_plain rfl ?_; refine h_fieldAddr rfl rfl FC.out rfl rfl ?_; refine hx_plain rfl ?_; refine h_rdLoad rfl r1 rfl UC.out rfl (by with_reducible assumption) rfl rfl rfl ?_; refine hx_plain rfl ?_; refine h_move rfl rfl rfl rfl ?_; refine hx_plain rfl ?_; refine h_indexAddr rfl rfl rfl UC.out IC.size (by omega) (by omega) rfl rfl ?_; refine hx_plain rfl ?_; refine h_rdLoad1 rfl r2 rfl UC.out rfl (by with_reducible assumption) rfl rfl rfl ?_; refine hx_plain rfl ?_; refine h_move rfl rfl rfl rfl ?_; refine hx_plain rfl ?_; refine h_move rfl rfl rfl rfl ?_; refine hx_plain rfl ?_; refine h_indexAddr rfl rfl rfl UC.out IC.size (by omega) (by omega) rfl rfl ?_; refine hx_plain rfl ?_; refine h_fieldAddr rfl rfl FC.out rfl rfl ?_; refine hx_plain rfl ?_; refine h_rdLoad rfl r1 rfl UC.out rfl (by with_reducible assumption) rfl rfl rfl ?_; refine hx_plain rfl ?_; refine h_cmp rfl rfl rfl rfl rfl rfl ?_; refine hx_nil ?_; refine hq_then ?_; refine hc_condD rfl (fun hc => ?_) (fun hc => ?_); refine hc_seq ?_; refine hc_lex ?_; refine hx_plain rfl ?_; refine h_assign rfl rfl rfl rfl ?_; refine hx_nil ?_; refine hq_then ?_; refine hc_ret ?_; refine hq_ret_block ?_; refine hq_ret_then ?_; refine hq_ret_then ?_; refine hq_cut_ret ?_; refine hq_ret_block ?_; refine hq_ret_block ?_; refine hq_ret_then ?_; refine hq_ret_then ?_; refine hq_cut_ret ?_; refine hq_ret_block ?_; refine hq_ret_then ?_; rotate_left; refine hc_skip ?_; refine hq_norm_block ?_; refine hq_then ?_; refine hc_lex ?_; refine hx_plain rfl ?_; refine h_move rfl rfl rfl rfl ?_; refine hx_plain rfl ?_; refine h_arithI rfl rfl rfl rfl (by omega) rfl rfl ?_; refine hx_plain rfl ?_; refine h_assign rfl rfl rfl rfl ?_; refine hx_nil ?_; rotate_left; refine hc_exit ?_; refine hq_exit_then ?_; refine hq_exit_then ?_; rotate_left)
          any_goals (exfalso; dsimp only at hc; omega)
          · exact hq_round (j + 1) (by omega) (by omega) (.cons rfl (.cons rfl (.cons rfl .nil))) (fun _ h => h)
        · (refine hc_seq ?_; refine hc_seq ?_; refine hc_lex ?_; refine hx_plain rfl ?_; refine h_move rfl rfl rfl rfl ?_; refine hx_plain rfl ?_; refine h_move rfl rfl rfl rfl ?_; refine hx_plain rfl ?_; refine h_move rfl rfl rfl rfl ?_; refine hx_plain rfl ?_; refine h_indexAddr rfl rfl rfl UC.out IC.size (by omega) (by omega) rfl rfl ?_; refine hx_plain rfl ?_; refine h_fieldAddr rfl rfl FC.out rfl rfl ?_; refine hx_plain rfl ?_; refine h_rdLoad rfl r1 rfl UC.out rfl (by with_reducible assumption) rfl rfl rfl ?_; refine hx_plain rfl ?_; refine h_cmp rfl rfl rfl rfl rfl rfl ?_; refine hx_nil ?_; refine hq_then ?_; refine hc_condD rfl (fun hc => ?_) (fun hc => ?_); refine hc_skip ?_; refine hq_then ?_; refine hc_seq ?_; refine hc_block ?_; refine hc_seq ?_; refine hc_draw0 (by kernel_rfl) (by kernel_rfl) ?_; refine hx_plain rfl ?_; refine h_move rfl rfl rfl rfl ?_; refine hx_plain rfl ?_; refine h_move rfl rfl rfl rfl ?_; refine hx_plain rfl ?_; refine h_indexAddr rfl rfl rfl UC.out IC.size (by omega) (by omega) rfl rfl ?_; refine hx_plain rfl ?_; refine h_fieldAddr rfl rfl FC.out rfl rfl ?_; refine hx_plain rfl ?_; refine h_rdLoad rfl r1 rfl UC.out rfl (by with_reducible assumption) rfl rfl rfl ?_; refine hx_plain rfl ?_; refine h_move rfl rfl rfl rfl ?_; refine hx_plain rfl ?_; rotate_left; refine hc_exit ?_; refine hq_exit_then ?_; refine hq_exit_then ?_; rotate_left)
          any_goals (exfalso; dsimp only at hc; omega)
          exact hq_cut () trivial (.cons rfl (.cons rfl .nil)) (fun _ h => h)
      · rintro ⟨⟩ _
        (refine hq_exit_block ?_; refine hq_norm_block ?_; refine hq_then ?_; refine hc_lex ?_; refine hx_plain rfl ?_; refine h_move rfl rfl rfl rfl ?_; refine hx_plain rfl ?_; refine h_arithI rfl rfl rfl rfl (by omega) rfl rfl ?_; refine hx_plain rfl ?_; refine h_assign rfl rfl rfl rfl ?_; refine hx_nil ?_)
        exact hq_round (i + 1) (by omega) (by omega) (.cons rfl (.cons rfl .nil)) (fun _ h => h)
    · (refine hc_seq ?_; refine hc_seq ?_; refine hc_lex ?_; refine hx_plain rfl ?_; refine h_move rfl rfl rfl rfl ?_; refine hx_plain rfl ?_; refine h_move rfl rfl rfl rfl ?_; refine hx_plain rfl ?_; refine h_len_slice rfl rfl rfl UC.out rfl rfl rfl ?_; refine hx_plain rfl ?_; refine h_cmp rfl rfl rfl rfl rfl rfl ?_; refine hx_nil ?_; refine hq_then ?_; refine hc_condDF rfl (by omega) ?_; refine hc_exit ?_; refine hq_exit_then ?_; refine hq_exit_then ?_)
      exact hq_cut () trivial .nil (fun _ h => h)
  · rintro ⟨⟩ _
    (refine hq_exit_block ?_; refine hq_then ?_; refine hc_seq ?_; refine hc_lex ?_; refine hx_plain rfl ?_; refine h_assign rfl rfl rfl rfl ?_; refine hx_nil ?_; refine hq_then ?_; refine hc_ret ?_)
    exact hq_ret1 (.inr rfl) rfl rfl ⟨rfl, rfl⟩ (fun _ h => h.emp)
end Go.Proofs.Ytbfmmgbfliebhaa
