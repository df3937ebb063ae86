import Derived.Test.YtggohplddejniaaD6
import Derived.Test.YtggohplddejniaaL1
namespace Go.Proofs.Ytggohplddejniaa
open Go Go.Proofs
set_option maxRecDepth 4000

set_option maxHeartbeats 4000000 in
theorem numbers_spec {ks : List KeyP} {w : World} {v0 : Value} (h1 : Rd kpE w v0 ks) (hl : ks.length ≤ 4398046511104) :
    Calls Try.prog 41 [v0].toArray w (fun en w' => ∃ v, en = .returned v ∧ St w nowhere [RowV intE 3 v (ks.map (·.n))] w') := by
  obtain ⟨a1, c1, rfl, l1, m1, k1⟩ := h1
  unfold maxLen at m1
  refine (spec_at (pre := []) (F := nowhere) (post := fun v M => M = [RowV intE 3 v (ks.map (·.n))]) Try.func41 rfl rfl (Nat.le_of_ble_eq_true rfl) trivial ?_).mono (fun en w' ⟨v, M, h1, h2, h3⟩ => ⟨v, h1, by rw [← h2]; exact h3⟩)
  (refine hc_seq ?_; refine hc_lex ?_; refine hx_plain rfl ?_; refine h_assign rfl rfl rfl rfl ?_; refine hx_nil ?_; refine hq_then ?_; refine hc_seq ?_; refine hc_lex ?_; refine hx_plain rfl ?_; refine h_assign rfl rfl rfl rfl ?_; refine hx_nil ?_; refine hq_then ?_; refine hc_seq ?_; refine hc_seq ?_; refine hc_lex ?_; refine hx_plain rfl ?_; refine h_assign rfl rfl rfl rfl ?_; refine hx_nil ?_; refine hq_then ?_; refine hc_block ?_)
  refine hc_cut (id := 0) (Y := Value) (fun v => [(3, v)]) (fun v => [RowV intE 3 v (ks.map (·.n))]) (fun _ => True) ?_ ?_
  · refine hc_loop (X := Nat × Value) (fun x => [(0, .slice a1 ks.length c1), (3, x.2), (4, .int .i64 (x.1 : Int))]) (fun x => [RowV intE 3 x.2 ((ks.take x.1).map (·.n))]) (fun x => x.1 ≤ ks.length) (fun x => ks.length - x.1) (0, .slice none 0 0) (.cons rfl (.cons rfl (.cons rfl .nil))) (Nat.zero_le _) (fun _ h => St.rowV_nil h) ?_
    rintro ⟨i, v⟩ hi
    dsimp only at hi ⊢
    by_cases hlt : i < ks.length
    · have hps : ks ≠ [] := by
        intro e
        have : ks.length = 0 := by rw [e]; rfl
        omega
      obtain ⟨g1, o1, rfl, r1⟩ := k1.resolve_left hps
      clear k1
      obtain ⟨q, hq⟩ : ∃ q, ks[i] = q := ⟨_, rfl⟩
      have e1 : ks[((i : Nat) : Int).toNat]? = some q := by rw [← hq]; exact List.getElem?_eq_getElem hlt
      have hsucc : (ks.take (i + 1)).map (·.n) = (ks.take i).map (·.n) ++ [q.n] := by rw [List.take_succ_eq_append_getElem hlt, List.map_append, hq]; rfl
      have hlen : ((ks.take i).map (·.n)).length = i := by rw [List.length_map, List.length_take]; omega
      obtain ⟨m, hm⟩ : ∃ m, (ks.take i).map (·.n) = m := ⟨_, rfl⟩
      rw [hm] at hsucc hlen ⊢
      (refine hc_seq ?_; refine hc_seq ?_; refine hc_lex ?_; refine hx_plain rfl ?_; refine h_move rfl rfl rfl rfl ?_; refine hx_plain rfl ?_; refine h_move rfl rfl rfl rfl ?_; refine hx_plain rfl ?_; refine h_len_slice rfl rfl rfl UC.out rfl rfl rfl ?_; refine hx_plain rfl ?_; refine h_cmp rfl rfl rfl rfl rfl rfl ?_; refine hx_nil ?_; refine hq_then ?_; refine hc_condDT rfl (by omega) ?_; refine hc_skip ?_; refine hq_then ?_; refine hc_seq ?_; refine hc_block ?_; refine hc_lex ?_; refine hx_plain rfl ?_; refine h_move rfl rfl rfl rfl ?_; refine hx_plain rfl ?_; refine h_move rfl rfl rfl rfl ?_; refine hx_plain rfl ?_; refine h_move rfl rfl rfl rfl ?_; refine hx_plain rfl ?_; refine h_indexAddr rfl rfl rfl UC.out IC.size (by omega) (by omega) rfl rfl ?_; refine hx_plain rfl ?_; refine h_fieldAddr rfl rfl FC.out rfl rfl ?_; refine hx_plain rfl ?_; refine h_rdLoad rfl r1 rfl UC.out rfl (by with_reducible assumption) rfl rfl rfl ?_; refine hx_plain rfl ?_; (refine h_buildSliceW rfl rfl UC.out IC.size IC.zero rfl rfl (by intro v hv; simp at hv; first | (subst hv; rfl) | (rcases hv with rfl | rfl <;> rfl) | (rcases hv with rfl | rfl | rfl <;> rfl)) (by omega) rfl rfl (fun _ => ?_)); refine hx_plain rfl ?_)
      refine h_append (E := intE) (T := 3) (xs := m) (ys := [q.n]) rfl rfl rfl rfl rfl UC.out IC.out rfl (.cons (.tail .head) (.cons .head .nil)) rfl (one_row intE _) (by unfold maxLen; omega) (by omega) rfl rfl (fun v' _ => ?_)
      (refine hx_plain rfl ?_; refine h_assign rfl rfl rfl rfl ?_; refine hx_nil ?_; refine hq_norm_block ?_; refine hq_then ?_; refine hc_lex ?_; refine hx_plain rfl ?_; refine h_move rfl rfl rfl rfl ?_; refine hx_plain rfl ?_; refine h_arithI rfl rfl rfl rfl (by omega) rfl rfl ?_; refine hx_plain rfl ?_; refine h_assign rfl rfl rfl rfl ?_; refine hx_nil ?_)
      refine hq_round (i + 1, v') (by show ks.length - (i + 1) < ks.length - i; omega) (by show i + 1 ≤ ks.length; omega) (.cons rfl (.cons rfl (.cons rfl .nil))) (fun _ h => ?_)
      show St w nowhere [RowV intE 3 v' ((ks.take (i + 1)).map (·.n))] _
      rw [hsucc]
      exact h.sub (.cons .head .nil)
    · (refine hc_seq ?_; refine hc_seq ?_; refine hc_lex ?_; refine hx_plain rfl ?_; refine h_move rfl rfl rfl rfl ?_; refine hx_plain rfl ?_; refine h_move rfl rfl rfl rfl ?_; refine hx_plain rfl ?_; refine h_len_slice rfl rfl rfl UC.out rfl rfl rfl ?_; refine hx_plain rfl ?_; refine h_cmp rfl rfl rfl rfl rfl rfl ?_; refine hx_nil ?_; refine hq_then ?_; refine hc_condDF rfl (by omega) ?_; refine hc_exit ?_; refine hq_exit_then ?_; refine hq_exit_then ?_)
      refine hq_cut v trivial (.cons rfl .nil) (fun _ h => ?_)
      rw [List.take_of_length_le (by omega)] at h
      exact h
  · rintro v _
    (refine hq_exit_block ?_; refine hq_then ?_; refine hc_seq ?_; refine hc_lex ?_; refine hx_plain rfl ?_; refine h_move rfl rfl rfl rfl ?_; refine hx_plain rfl ?_; refine h_assign rfl rfl rfl rfl ?_; refine hx_nil ?_; refine hq_then ?_; refine hc_ret ?_)
    refine hq_ret1 (.inr rfl) rfl rfl rfl (fun _ h => h)
end Go.Proofs.Ytggohplddejniaa
