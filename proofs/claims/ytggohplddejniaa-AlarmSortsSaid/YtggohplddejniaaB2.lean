import Derived.Test.YtggohplddejniaaB1
namespace Go.Proofs.Ytggohplddejniaa
open Go Go.Proofs
set_option maxRecDepth 4000

theorem bkH_mem {ents : List (SlV × Nat)} {i : Nat} {q : SlV × Nat} (h : ents[i]? = some q) : (q.1.v, List.replicate q.2 (mk i)) ∈ bkH ents := by
  refine List.mem_map.2 ⟨(q, i), ?_, rfl⟩
  exact List.mem_iff_getElem?.2 ⟨i, by rw [List.getElem?_zipIdx, h]; simp⟩

set_option maxHeartbeats 4000000 in
theorem whole_spec (p : Nat) (ents : List (SlV × Nat)) (hl : ents.length ≤ 13194139533312) :
    Spec Try.prog 18 [.pointer (some ⟨p, 0, none⟩)] [BkO p ents] (fun u M => u = .bool true ∧ M = [BkO p ents]) := by
  refine spec_of Try.func18 rfl rfl (Nat.le_of_ble_eq_true rfl) (fun w F => ?_)
  refine hc_open .head BkO_open ?_
  rintro ⟨vL, vN⟩
  dsimp only
  have hlen : (ents.map (·.1)).length = ents.length := List.length_map _
  have hlen2 : (ents.map (fun q => (q.2 : Int))).length = ents.length := List.length_map _
  (refine hc_seq ?_; refine hc_lex ?_; refine hx_plain rfl ?_; refine h_assign rfl rfl rfl rfl ?_; refine hx_nil ?_; refine hq_then ?_; refine hc_seq ?_; refine hc_seq ?_; refine hc_lex ?_; refine hx_plain rfl ?_; refine h_assign rfl rfl rfl rfl ?_; refine hx_nil ?_; refine hq_then ?_; refine hc_block ?_)
  refine hc_cut (id := 0) (Y := Unit) (fun _ => []) (fun _ => [BkO p ents]) (fun _ => True) ?_ ?_
  · refine hc_loop (X := Nat) (fun i => [(0, .pointer (some ⟨p, 0, none⟩)), (3, .int .i64 (i : Int))]) (fun i => [Blk p (.cells #[vL, vN] 43), RowV slE 29 vL (ents.map (·.1)), RowV intE 3 vN (ents.map fun q => (q.2 : Int)), Holds intE (bkH ents)]) (fun i => i ≤ ents.length) (fun i => ents.length - i) 0 (.cons rfl (.cons rfl .nil)) (Nat.zero_le _) (fun _ h => h) ?_
    intro i hi
    by_cases hlt : i < ents.length
    · refine hc_rowV (.tail .head) ?_ ?_
      · intro _ e1
        have := congrArg List.length e1
        rw [hlen] at this
        have h0 : ents.length = 0 := this
        omega
      rintro gL cL rfl
      refine hc_rowV (.tail (.tail .head)) ?_ ?_
      · intro _ e1
        have := congrArg List.length e1
        rw [hlen2] at this
        have h0 : ents.length = 0 := this
        omega
      rintro gN cN rfl
      obtain ⟨⟨s, n⟩, hq⟩ : ∃ q, ents[i]? = some q := ⟨_, List.getElem?_eq_getElem hlt⟩
      have e1 : (ents.map (·.1))[((i : Nat) : Int).toNat]? = some s := by rw [List.getElem?_map]; show (ents[i]?).map _ = _; rw [hq]; rfl
      have e2 : (ents.map (fun q => (q.2 : Int)))[((i : Nat) : Int).toNat]? = some (n : Int) := by rw [List.getElem?_map]; show (ents[i]?).map _ = _; rw [hq]; rfl
      have hm := bkH_mem hq
      dsimp only at hm
      refine hc_know (fun _ h => h.hold_shape (.tail (.tail (.tail .head))) hm) ?_
      rw [List.length_replicate]
      unfold maxLen
      rintro ⟨a, c, hs, hc1, hc2, ha⟩
      obtain ⟨sa, sl, sc⟩ := s
      injection hs with hs1 hs2 hs3
      dsimp only at hs1 hs2 hs3
      subst hs1 hs2 hs3
      rw [hlen, hlen2]
      (refine hc_seq ?_; refine hc_seq ?_; refine hc_lex ?_; refine hx_plain rfl ?_; refine h_move rfl rfl rfl rfl ?_; refine hx_plain rfl ?_; refine h_move rfl rfl rfl rfl ?_; refine hx_plain rfl ?_; refine h_nilCheck rfl rfl rfl rfl ?_; refine hx_plain rfl ?_; refine h_fieldAddr0 rfl rfl FC.out rfl rfl ?_; refine hx_plain rfl ?_; refine h_load rfl rfl UC.out rfl (.tail (.tail .head)) rfl rfl rfl ?_; refine hx_plain rfl ?_; refine h_len_slice rfl rfl rfl UC.out rfl rfl rfl ?_; refine hx_plain rfl ?_; refine h_cmp rfl rfl rfl rfl rfl rfl ?_; refine hx_nil ?_; refine hq_then ?_; refine hc_condDT rfl (by omega) ?_; refine hc_skip ?_; refine hq_then ?_; refine hc_seq ?_; refine hc_block ?_; refine hc_seq ?_; refine hc_seq ?_; refine hc_draw0 (by kernel_rfl) (by kernel_rfl) ?_; refine hx_plain rfl ?_; refine h_move rfl rfl rfl rfl ?_; refine hx_plain rfl ?_; refine h_nilCheck rfl rfl rfl rfl ?_; refine hx_plain rfl ?_; refine h_fieldAddr0 rfl rfl FC.out rfl rfl ?_; refine hx_plain rfl ?_; refine h_load rfl rfl UC.out rfl (.tail (.tail .head)) rfl rfl rfl ?_; refine hx_plain rfl ?_; refine h_move rfl rfl rfl rfl ?_; refine hx_plain rfl ?_; refine h_rowAddr rfl rfl rfl UC.out IC.size (by omega) (by omega) rfl rfl ?_; refine hx_plain rfl ?_; refine h_rowLoad1 rfl (.tail .head) rfl UC.out rfl (by with_reducible assumption) rfl rfl rfl ?_; refine hx_plain rfl ?_; refine h_len_slice rfl rfl rfl UC.out rfl rfl rfl ?_; refine hx_plain rfl ?_; refine h_move rfl rfl rfl rfl ?_; refine hx_plain rfl ?_; refine h_nilCheck rfl rfl rfl rfl ?_; refine hx_plain rfl ?_; refine h_fieldAddr0 rfl rfl FC.out rfl rfl ?_; refine hx_plain rfl ?_; refine h_load rfl rfl UC.out rfl (.tail (.tail .head)) rfl rfl rfl ?_; refine hx_plain rfl ?_; refine h_move rfl rfl rfl rfl ?_; refine hx_plain rfl ?_; refine h_rowAddr rfl rfl rfl UC.out IC.size (by omega) (by omega) rfl rfl ?_; refine hx_plain rfl ?_; refine h_rowLoad1 rfl .head rfl UC.out rfl (by with_reducible assumption) rfl rfl rfl ?_; refine hx_plain rfl ?_; refine h_cmp rfl rfl rfl rfl rfl rfl ?_; refine hx_nil ?_; refine hq_then ?_; refine hc_condD rfl (fun hc => ?_) (fun hc => ?_); refine hc_seq ?_; refine hc_lex ?_; refine hx_plain rfl ?_; refine h_assign rfl rfl rfl rfl ?_; refine hx_nil ?_; refine hq_then ?_; refine hc_ret ?_; refine hq_ret_then ?_; refine hq_ret_block ?_; refine hq_ret_then ?_; refine hq_ret_then ?_; refine hq_cut_ret ?_; refine hq_ret_block ?_; refine hq_ret_then ?_; rotate_left; refine hc_skip ?_; refine hq_then ?_; refine hc_seq ?_; refine hc_lex ?_; refine hx_plain rfl ?_; refine h_assign rfl rfl rfl rfl ?_; refine hx_nil ?_; refine hq_then ?_; refine hc_block ?_; rotate_left)
      · exact absurd rfl hc
      refine hc_cut (id := 2) (Y := Unit) (fun _ => [(0, .pointer (some ⟨p, 0, none⟩)), (3, .int .i64 (i : Int))]) (fun _ => [Row intE 3 gN cN (ents.map (fun q => (q.2 : Int))), Row slE 29 gL cL (ents.map (·.1)), Blk p (.cells #[.slice (some ⟨gL, 0, none⟩) ents.length cL, .slice (some ⟨gN, 0, none⟩) ents.length cN] 43), Holds intE (bkH ents)]) (fun _ => True) ?_ ?_
      · refine hc_loop (X := Nat) (fun j => [(0, .pointer (some ⟨p, 0, none⟩)), (3, .int .i64 (i : Int)), (4, .int .i64 (j : Int))]) (fun _ => [Row intE 3 gN cN (ents.map (fun q => (q.2 : Int))), Row slE 29 gL cL (ents.map (·.1)), Blk p (.cells #[.slice (some ⟨gL, 0, none⟩) ents.length cL, .slice (some ⟨gN, 0, none⟩) ents.length cN] 43), Holds intE (bkH ents)]) (fun j => j ≤ sl) (fun j => sl - j) 0 (.cons rfl (.cons rfl (.cons rfl .nil))) (Nat.zero_le _) (fun _ h => h) ?_
        intro j hj
        by_cases hjl : j < sl
        · obtain ⟨g, off, rfl⟩ := ha.resolve_left (by
            intro e
            have := congrArg List.length e
            rw [List.length_replicate] at this
            have h0 : sl = 0 := this
            omega)
          have hjm : (List.replicate sl (mk i))[((j : Nat) : Int).toNat]? = some (mk i) := by simp [hjl]
          (refine hc_seq ?_; refine hc_seq ?_; refine hc_lex ?_; refine hx_plain rfl ?_; refine h_move rfl rfl rfl rfl ?_; refine hx_plain rfl ?_; refine h_move rfl rfl rfl rfl ?_; refine hx_plain rfl ?_; refine h_nilCheck rfl rfl rfl rfl ?_; refine hx_plain rfl ?_; refine h_fieldAddr0 rfl rfl FC.out rfl rfl ?_; refine hx_plain rfl ?_; refine h_load rfl rfl UC.out rfl (.tail (.tail .head)) rfl rfl rfl ?_; refine hx_plain rfl ?_; refine h_move rfl rfl rfl rfl ?_; refine hx_plain rfl ?_; refine h_rowAddr rfl rfl rfl UC.out IC.size (by omega) (by omega) rfl rfl ?_; refine hx_plain rfl ?_; refine h_rowLoad1 rfl (.tail .head) rfl UC.out rfl (by with_reducible assumption) rfl rfl rfl ?_; refine hx_plain rfl ?_; refine h_len_slice rfl rfl rfl UC.out rfl rfl rfl ?_; refine hx_plain rfl ?_; refine h_cmp rfl rfl rfl rfl rfl rfl ?_; refine hx_nil ?_; refine hq_then ?_; refine hc_condDT rfl (by omega) ?_; refine hc_skip ?_; refine hq_then ?_; refine hc_seq ?_; refine hc_block ?_; refine hc_seq ?_; refine hc_lex ?_; refine hx_plain rfl ?_; refine h_move rfl rfl rfl rfl ?_; refine hx_plain rfl ?_; refine h_nilCheck rfl rfl rfl rfl ?_; refine hx_plain rfl ?_; refine h_fieldAddr0 rfl rfl FC.out rfl rfl ?_; refine hx_plain rfl ?_; refine h_load rfl rfl UC.out rfl (.tail (.tail .head)) rfl rfl rfl ?_; refine hx_plain rfl ?_; refine h_move rfl rfl rfl rfl ?_; refine hx_plain rfl ?_; refine h_rowAddr rfl rfl rfl UC.out IC.size (by omega) (by omega) rfl rfl ?_; refine hx_plain rfl ?_; refine h_rowLoad1 rfl (.tail .head) rfl UC.out rfl (by with_reducible assumption) rfl rfl rfl ?_; refine hx_plain rfl ?_; refine h_move rfl rfl rfl rfl ?_; refine hx_plain rfl ?_; refine h_indexAddr rfl rfl rfl UC.out IC.size (by omega) (by omega) rfl rfl ?_; refine hx_plain rfl ?_; refine h_holdLoad0 rfl (.tail (.tail (.tail .head))) hm rfl UC.out rfl (by with_reducible assumption) rfl rfl rfl ?_; refine hx_plain rfl ?_; refine h_move rfl rfl rfl rfl ?_; refine hx_plain rfl ?_; refine h_quoI rfl rfl rfl (by omega) rfl rfl ?_; refine hx_plain rfl ?_; refine h_arithI rfl rfl rfl rfl (by omega) rfl rfl ?_; refine hx_plain rfl ?_; refine h_cmp rfl rfl rfl rfl rfl rfl ?_; refine hx_nil ?_; refine hq_then ?_; refine hc_condD rfl (fun hc => ?_) (fun hc => ?_); refine hc_seq ?_; refine hc_lex ?_; refine hx_plain rfl ?_; refine h_assign rfl rfl rfl rfl ?_; refine hx_nil ?_; refine hq_then ?_; refine hc_ret ?_; refine hq_ret_block ?_; refine hq_ret_then ?_; refine hq_ret_then ?_; refine hq_cut_ret ?_; refine hq_ret_block ?_; refine hq_ret_block ?_; refine hq_ret_then ?_; refine hq_ret_then ?_; refine hq_cut_ret ?_; refine hq_ret_block ?_; refine hq_ret_then ?_; rotate_left; refine hc_skip ?_; refine hq_norm_block ?_; refine hq_then ?_; refine hc_lex ?_; refine hx_plain rfl ?_; refine h_move rfl rfl rfl rfl ?_; refine hx_plain rfl ?_; refine h_arithI rfl rfl rfl rfl (by omega) rfl rfl ?_; refine hx_plain rfl ?_; refine h_assign rfl rfl rfl rfl ?_; refine hx_nil ?_; rotate_left)
          · exact absurd rfl hc
          · exact hq_round (j + 1) (by omega) (by omega) (.cons rfl (.cons rfl (.cons rfl .nil))) (fun _ h => h)
        · (refine hc_seq ?_; refine hc_seq ?_; refine hc_lex ?_; refine hx_plain rfl ?_; refine h_move rfl rfl rfl rfl ?_; refine hx_plain rfl ?_; refine h_move rfl rfl rfl rfl ?_; refine hx_plain rfl ?_; refine h_nilCheck rfl rfl rfl rfl ?_; refine hx_plain rfl ?_; refine h_fieldAddr0 rfl rfl FC.out rfl rfl ?_; refine hx_plain rfl ?_; refine h_load rfl rfl UC.out rfl (.tail (.tail .head)) rfl rfl rfl ?_; refine hx_plain rfl ?_; refine h_move rfl rfl rfl rfl ?_; refine hx_plain rfl ?_; refine h_rowAddr rfl rfl rfl UC.out IC.size (by omega) (by omega) rfl rfl ?_; refine hx_plain rfl ?_; refine h_rowLoad1 rfl (.tail .head) rfl UC.out rfl (by with_reducible assumption) rfl rfl rfl ?_; refine hx_plain rfl ?_; refine h_len_slice rfl rfl rfl UC.out rfl rfl rfl ?_; refine hx_plain rfl ?_; refine h_cmp rfl rfl rfl rfl rfl rfl ?_; refine hx_nil ?_; refine hq_then ?_; refine hc_condDF rfl (by omega) ?_; refine hc_exit ?_; refine hq_exit_then ?_; refine hq_exit_then ?_)
          exact hq_cut () trivial (.cons rfl (.cons rfl .nil)) (fun _ h => h)
      · rintro ⟨⟩ _
        (refine hq_exit_block ?_; refine hq_norm_block ?_; refine hq_then ?_; refine hc_lex ?_; refine hx_plain rfl ?_; refine h_move rfl rfl rfl rfl ?_; refine hx_plain rfl ?_; refine h_arithI rfl rfl rfl rfl (by omega) rfl rfl ?_; refine hx_plain rfl ?_; refine h_assign rfl rfl rfl rfl ?_; refine hx_nil ?_)
        refine hq_round (i + 1) (by omega) (by omega) (.cons rfl (.cons rfl .nil)) (fun _ h => ?_)
        have h1 := h.rowV_mk
        rw [hlen2] at h1
        have h2 := (h1.perm (List.Perm.swap _ _ _)).rowV_mk
        rw [hlen] at h2
        exact h2.sub (.cons (.tail (.tail .head)) (.cons .head (.cons .head (.cons .head .nil))))
    · (refine hc_seq ?_; refine hc_seq ?_; refine hc_lex ?_; refine hx_plain rfl ?_; refine h_move rfl rfl rfl rfl ?_; refine hx_plain rfl ?_; refine h_move rfl rfl rfl rfl ?_; refine hx_plain rfl ?_; refine h_nilCheck rfl rfl rfl rfl ?_; refine hx_plain rfl ?_; refine h_fieldAddr0 rfl rfl FC.out rfl rfl ?_; refine hx_plain rfl ?_; refine h_load rfl rfl UC.out rfl .head rfl rfl rfl ?_; refine hx_plain rfl ?_)
      refine h_lenV rfl rfl (.tail .head) rfl UC.out rfl rfl rfl ?_
      rw [hlen]
      (refine hx_plain rfl ?_; refine h_cmp rfl rfl rfl rfl rfl rfl ?_; refine hx_nil ?_; refine hq_then ?_; refine hc_condDF rfl (by omega) ?_; refine hc_exit ?_; refine hq_exit_then ?_; refine hq_exit_then ?_)
      exact hq_cut () trivial .nil (fun _ h => BkO_shut h)
  · rintro ⟨⟩ _
    (refine hq_exit_block ?_; refine hq_then ?_; refine hc_seq ?_; refine hc_lex ?_; refine hx_plain rfl ?_; refine h_assign rfl rfl rfl rfl ?_; refine hx_nil ?_; refine hq_then ?_; refine hc_ret ?_)
    exact hq_ret1 (.inr rfl) rfl rfl ⟨rfl, rfl⟩ (fun _ h => h)
end Go.Proofs.Ytggohplddejniaa
