import Derived.Test.YtbfmmgbfliebhaaN8
namespace Go.Proofs.Ytbfmmgbfliebhaa
open Go Go.Proofs
set_option maxRecDepth 4000

set_option maxHeartbeats 2000000 in
theorem rtake_spec {p : Nat} {s : NS} (no : Int) (hok : s.Ok) :
    Spec Try.prog 13 [.pointer (some ⟨p, 0, none⟩), .int .i64 no] [NtR p s] (fun u M => (s.find no = none ∧ u = .tuple #[.agg #[.int .i64 0, .slice none 0 0], .int .i64 201] ∧ M = [NtR p s]) ∨ ∃ (f : Fl) (sl : SlV), s.find no = some f ∧ u = .tuple #[.agg #[.int .i64 f.to, sl.v], .int .i64 0] ∧ M = [RowV byteE 5 sl.v f.data, NtR p (s.del no)]) := by
  refine spec_of Try.func13 rfl rfl (Nat.le_of_ble_eq_true rfl) (fun w F => ?_)
  refine hc_openP .head NtR_open ?_
  rintro ⟨v, qs⟩ hl
  dsimp only at hl ⊢
  have hfew : qs.length ≤ 4096 := by
    have := hok.few
    rw [← hl, List.length_map] at this
    exact this
  (refine hc_seq ?_; refine hc_lex ?_; refine hx_plain rfl ?_; (refine h_alloc rfl rfl IC.zero rfl rfl rfl (fun _ => ?_)); refine hx_plain rfl ?_; refine h_assign rfl rfl rfl rfl ?_; refine hx_nil ?_; refine hq_then ?_; refine hc_seq ?_; refine hc_lex ?_; refine hx_plain rfl ?_; refine h_move rfl rfl rfl rfl ?_; refine hx_plain rfl ?_; refine h_move rfl rfl rfl rfl ?_; refine hx_plain rfl ?_)
  refine h_call rfl rfl rfl rfl rfl rfl rfl rfl EC.out (.cons (.tail .head) (.cons (.tail .head) .nil)) (at_spec no hl hfew) ?_
  rintro u M ⟨rfl, rfl⟩
  rename_i b4
  rcases ref_find hl no with ⟨hf, ha⟩ | ⟨k, q, hk, hsk, hno, hf, ha⟩
  · rw [ha]
    (refine hx_plain rfl ?_; refine h_assign rfl rfl rfl rfl ?_; refine hx_nil ?_; refine hq_then ?_; refine hc_seq ?_; refine hc_seq ?_; refine hc_lex ?_; refine hx_plain rfl ?_; refine h_move rfl rfl rfl rfl ?_; refine hx_plain rfl ?_; refine h_cmp rfl rfl rfl rfl rfl rfl ?_; refine hx_nil ?_; refine hq_then ?_; refine hc_condT rfl ?_; refine hc_seq ?_; refine hc_lex ?_; refine hx_plain rfl ?_; refine h_build rfl inferInstance rfl rfl rfl rfl ?_; refine hx_plain rfl ?_; refine h_store rfl rfl rfl rfl rfl rfl IC.size (.tail (.tail .head)) rfl rfl (Nat.le_of_ble_eq_true rfl) (List.all_eq_true.1 rfl) ?_; refine hx_plain rfl ?_; refine h_assign rfl rfl rfl rfl ?_; refine hx_nil ?_; refine hq_then ?_; refine hc_ret ?_; refine hq_ret_then ?_)
    refine hq_R2 (.inr rfl) rfl (rv_cell rfl .head UC.out rfl IC.size) (rv_tmp rfl) (.inl ⟨hf, rfl, rfl⟩) (fun _ h => ?_)
    exact NtR_shut hl (h.sub (.cons (.tail .head) (.cons (.tail .head) (.cons (.tail .head) .nil))))
  rw [ha]
  have hkl := (List.getElem?_eq_some_iff.1 hk).1
  (refine hx_plain rfl ?_; refine h_assign rfl rfl rfl rfl ?_; refine hx_nil ?_; refine hq_then ?_)
  refine hc_rowV (.tail .head) ?_ ?_
  · intro _ e
    rw [e] at hkl
    exact absurd hkl (Nat.not_lt_zero _)
  rintro g cap rfl
  have e1 : qs[((k : Nat) : Int).toNat]? = some q := hk
  (refine hc_seq ?_; refine hc_seq ?_; refine hc_lex ?_; refine hx_plain rfl ?_; refine h_move rfl rfl rfl rfl ?_; refine hx_plain rfl ?_; refine h_cmp rfl rfl rfl rfl rfl rfl ?_; refine hx_nil ?_; refine hq_then ?_; refine hc_condF rfl ?_; refine hc_skip ?_; refine hq_then ?_; refine hc_seq ?_; refine hc_lex ?_; refine hx_plain rfl ?_; refine h_move rfl rfl rfl rfl ?_; refine hx_plain rfl ?_; refine h_nilCheck rfl rfl rfl rfl ?_; refine hx_plain rfl ?_; refine h_fieldAddr0 rfl rfl FC.out rfl rfl ?_; refine hx_plain rfl ?_; refine h_load rfl rfl UC.out rfl (.tail .head) rfl rfl rfl ?_; refine hx_plain rfl ?_; refine h_move rfl rfl rfl rfl ?_; refine hx_plain rfl ?_; refine h_rowAddr rfl rfl rfl UC.out IC.size (by omega) (by omega) rfl rfl ?_; refine hx_plain rfl ?_; refine h_rowLoadN rfl .head rfl UC.out rfl IC.size (by with_reducible assumption) rfl rfl rfl ?_; refine hx_plain rfl ?_; (refine h_alloc rfl rfl IC.zero rfl rfl rfl (fun _ => ?_)); refine hx_plain rfl ?_; refine h_store rfl rfl rfl rfl rfl rfl IC.size .head rfl rfl (Nat.le_of_ble_eq_true rfl) (List.all_eq_true.1 rfl) ?_; refine hx_nil ?_; refine hq_then ?_; refine hc_seq ?_; refine hc_lex ?_; refine hx_plain rfl ?_; refine h_assign rfl rfl rfl rfl ?_; refine hx_nil ?_; refine hq_then ?_; refine hc_seq ?_; refine hc_seq ?_; refine hc_lex ?_; refine hx_plain rfl ?_; refine h_assign rfl rfl rfl rfl ?_; refine hx_nil ?_; refine hq_then ?_; refine hc_block ?_)
  rename_i b7
  refine hc_cut (id := 0) (Y := Value) (fun y => [(0, .pointer (some ⟨p, 0, none⟩)), (4, .pointer (some ⟨b4, 0, none⟩)), (7, .pointer (some ⟨b7, 0, none⟩)), (8, y)]) (fun y => [rfL y (qs.eraseIdx k), Blk b7 (.cells #[.int .i64 q.f.no, .int .i64 q.f.to, q.sl.v] 52 (0, 0)), rfB p (.slice (some ⟨g, 0, none⟩) qs.length cap) s.given, Blk b4 (.cells #[.int .i64 0, .slice none 0 0] 37 (0, 0)), netR qs]) (fun _ => True) ?_ ?_
  · refine hc_loop (X := Nat × Value) (fun x => [(0, .pointer (some ⟨p, 0, none⟩)), (4, .pointer (some ⟨b4, 0, none⟩)), (6, .int .i64 (k : Int)), (7, .pointer (some ⟨b7, 0, none⟩)), (8, x.2), (9, .int .i64 (x.1 : Int))]) (fun x => [rfL x.2 ((qs.take x.1).eraseIdx k), Blk b7 (.cells #[.int .i64 q.f.no, .int .i64 q.f.to, q.sl.v] 52 (0, 0)), Row qfE 52 g cap qs, rfB p (.slice (some ⟨g, 0, none⟩) qs.length cap) s.given, Blk b4 (.cells #[.int .i64 0, .slice none 0 0] 37 (0, 0)), netR qs]) (fun x => x.1 ≤ qs.length) (fun x => qs.length - x.1) (0, .slice none 0 0) (.cons rfl (.cons rfl (.cons rfl (.cons rfl (.cons rfl (.cons rfl .nil)))))) (Nat.zero_le _) (fun w' h => ?_) ?_
    · have h2 : St w F (Blk b7 (.cells #[.int .i64 q.f.no, .int .i64 q.f.to, q.sl.v] 52 (0, 0)) :: Row qfE 52 g cap qs :: rfB p (.slice (some ⟨g, 0, none⟩) qs.length cap) s.given :: Blk b4 (.cells #[.int .i64 0, .slice none 0 0] 37 (0, 0)) :: netR qs :: []) w' := h.sub (.cons .head (.cons .head (.cons .head (.cons .head (.cons .head .nil)))))
      exact h2.rowV_nil
    rintro ⟨i, v⟩ hi
    dsimp only at hi ⊢
    by_cases hlt : i < qs.length
    · have e2 : qs[((i : Nat) : Int).toNat]? = some qs[i] := List.getElem?_eq_getElem hlt
      have hel : ((qs.take i).eraseIdx k).length ≤ 4096 := Nat.le_trans (List.length_eraseIdx_le _ _) (by rw [List.length_take]; omega)
      obtain ⟨q2, hq2⟩ : ∃ q2, qs[i] = q2 := ⟨_, rfl⟩
      rw [hq2] at e2
      by_cases hik : i = k
      · subst hik
        (refine hc_seq ?_; refine hc_seq ?_; refine hc_lex ?_; refine hx_plain rfl ?_; refine h_move rfl rfl rfl rfl ?_; refine hx_plain rfl ?_; refine h_move rfl rfl rfl rfl ?_; refine hx_plain rfl ?_; refine h_nilCheck rfl rfl rfl rfl ?_; refine hx_plain rfl ?_; refine h_fieldAddr0 rfl rfl FC.out rfl rfl ?_; refine hx_plain rfl ?_; refine h_load rfl rfl UC.out rfl (.tail (.tail (.tail .head))) rfl rfl rfl ?_; refine hx_plain rfl ?_; refine h_len_slice rfl rfl rfl UC.out rfl rfl rfl ?_; refine hx_plain rfl ?_; refine h_cmp rfl rfl rfl rfl rfl rfl ?_; refine hx_nil ?_; refine hq_then ?_; refine hc_condDT rfl (by omega) ?_; refine hc_skip ?_; refine hq_then ?_; refine hc_seq ?_; refine hc_block ?_; refine hc_seq ?_; refine hc_lex ?_; refine hx_plain rfl ?_; refine h_move rfl rfl rfl rfl ?_; refine hx_plain rfl ?_; refine h_move rfl rfl rfl rfl ?_; refine hx_plain rfl ?_; refine h_cmp rfl rfl rfl rfl rfl rfl ?_; refine hx_nil ?_; refine hq_then ?_; refine hc_condDF rfl (by omega) ?_; refine hc_skip ?_; refine hq_norm_block ?_; refine hq_then ?_; refine hc_lex ?_; refine hx_plain rfl ?_; refine h_move rfl rfl rfl rfl ?_; refine hx_plain rfl ?_; refine h_arithI rfl rfl rfl rfl (by omega) rfl rfl ?_; refine hx_plain rfl ?_; refine h_assign rfl rfl rfl rfl ?_; refine hx_nil ?_)
        refine hq_round (i + 1, v) (by show qs.length - (i + 1) < qs.length - i; omega) (by show i + 1 ≤ qs.length; omega) (.cons rfl (.cons rfl (.cons rfl (.cons rfl (.cons rfl (.cons rfl .nil)))))) (fun w' h => ?_)
        show St w F [rfL v ((qs.take (i + 1)).eraseIdx i), _, _, _, _, _] w'
        rw [take_erase_eq hlt]
        exact h
      · have hik2 : ((i : Nat) : Int) ≠ (k : Int) := by omega
        (refine hc_seq ?_; refine hc_seq ?_; refine hc_lex ?_; refine hx_plain rfl ?_; refine h_move rfl rfl rfl rfl ?_; refine hx_plain rfl ?_; refine h_move rfl rfl rfl rfl ?_; refine hx_plain rfl ?_; refine h_nilCheck rfl rfl rfl rfl ?_; refine hx_plain rfl ?_; refine h_fieldAddr0 rfl rfl FC.out rfl rfl ?_; refine hx_plain rfl ?_; refine h_load rfl rfl UC.out rfl (.tail (.tail (.tail .head))) rfl rfl rfl ?_; refine hx_plain rfl ?_; refine h_len_slice rfl rfl rfl UC.out rfl rfl rfl ?_; refine hx_plain rfl ?_; refine h_cmp rfl rfl rfl rfl rfl rfl ?_; refine hx_nil ?_; refine hq_then ?_; refine hc_condDT rfl (by omega) ?_; refine hc_skip ?_; refine hq_then ?_; refine hc_seq ?_; refine hc_block ?_; refine hc_seq ?_; refine hc_lex ?_; refine hx_plain rfl ?_; refine h_move rfl rfl rfl rfl ?_; refine hx_plain rfl ?_; refine h_move rfl rfl rfl rfl ?_; refine hx_plain rfl ?_; refine h_cmp rfl rfl rfl rfl rfl rfl ?_; refine hx_nil ?_; refine hq_then ?_; refine hc_condDT rfl (by omega) ?_; refine hc_lex ?_; refine hx_plain rfl ?_; refine h_move rfl rfl rfl rfl ?_; refine hx_plain rfl ?_; refine h_move rfl rfl rfl rfl ?_; refine hx_plain rfl ?_; refine h_nilCheck rfl rfl rfl rfl ?_; refine hx_plain rfl ?_; refine h_fieldAddr0 rfl rfl FC.out rfl rfl ?_; refine hx_plain rfl ?_; refine h_load rfl rfl UC.out rfl (.tail (.tail (.tail .head))) rfl rfl rfl ?_; refine hx_plain rfl ?_; refine h_move rfl rfl rfl rfl ?_; refine hx_plain rfl ?_; refine h_rowAddr rfl rfl rfl UC.out IC.size (by omega) (by omega) rfl rfl ?_; refine hx_plain rfl ?_; refine h_rowLoadN rfl (.tail (.tail .head)) rfl UC.out rfl IC.size (by with_reducible assumption) rfl rfl rfl ?_; refine hx_plain rfl ?_; (refine h_buildSlice rfl rfl rfl UC.out IC.size IC.zero rfl rfl (by intro v hv; simp at hv; first | (subst hv; rfl) | (rcases hv with rfl | rfl <;> rfl) | (rcases hv with rfl | rfl | rfl <;> rfl)) (by omega) rfl rfl (fun _ => ?_)); refine hx_plain rfl ?_)
        · refine h_append (m := 1) (E := qfE) (T := 52) (xs := (qs.take i).eraseIdx k) (ys := [q2]) rfl rfl rfl rfl rfl UC.out IC.out rfl (.cons (.tail .head) (.cons .head .nil)) rfl (one_row qfE _) (by unfold maxLen; omega) (by omega) rfl rfl (fun v' _ => ?_)
          (refine hx_plain rfl ?_; refine h_assign rfl rfl rfl rfl ?_; refine hx_nil ?_; refine hq_norm_block ?_; refine hq_then ?_; refine hc_lex ?_; refine hx_plain rfl ?_; refine h_move rfl rfl rfl rfl ?_; refine hx_plain rfl ?_; refine h_arithI rfl rfl rfl rfl (by omega) rfl rfl ?_; refine hx_plain rfl ?_; refine h_assign rfl rfl rfl rfl ?_; refine hx_nil ?_)
          refine hq_round (i + 1, v') (by show qs.length - (i + 1) < qs.length - i; omega) (by show i + 1 ≤ qs.length; omega) (.cons rfl (.cons rfl (.cons rfl (.cons rfl (.cons rfl (.cons rfl .nil)))))) (fun w' h => ?_)
          show St w F [rfL v' ((qs.take (i + 1)).eraseIdx k), _, _, _, _, _] w'
          rw [take_erase_ne hlt hik, hq2]
          exact h.sub (.cons .head (.cons (.tail .head) (.cons (.tail .head) (.cons (.tail .head) (.cons (.tail .head) (.cons (.tail .head) .nil))))))
    · obtain rfl : i = qs.length := by omega
      rw [List.take_length]
      (refine hc_seq ?_; refine hc_seq ?_; refine hc_lex ?_; refine hx_plain rfl ?_; refine h_move rfl rfl rfl rfl ?_; refine hx_plain rfl ?_; refine h_move rfl rfl rfl rfl ?_; refine hx_plain rfl ?_; refine h_nilCheck rfl rfl rfl rfl ?_; refine hx_plain rfl ?_; refine h_fieldAddr0 rfl rfl FC.out rfl rfl ?_; refine hx_plain rfl ?_; refine h_load rfl rfl UC.out rfl (.tail (.tail (.tail .head))) rfl rfl rfl ?_; refine hx_plain rfl ?_; refine h_len_slice rfl rfl rfl UC.out rfl rfl rfl ?_; refine hx_plain rfl ?_; refine h_cmp rfl rfl rfl rfl rfl rfl ?_; refine hx_nil ?_; refine hq_then ?_; refine hc_condDF rfl (by omega) ?_; refine hc_exit ?_; refine hq_exit_then ?_; refine hq_exit_then ?_)
      refine hq_cut v trivial (.cons rfl (.cons rfl (.cons rfl (.cons rfl .nil)))) (fun w' h => ?_)
      exact h.sub (.cons .head (.cons .head (.cons (.tail .head) (.cons (.tail .head) (.cons (.tail .head) .nil)))))
  · rintro v _
    refine hq_know (fun _ h => St.rowV_shapeS h .head) ?_
    rintro ⟨av, cv, rfl⟩
    (refine hq_exit_block ?_; refine hq_then ?_; refine hc_seq ?_; refine hc_lex ?_; refine hx_plain rfl ?_; refine h_move rfl rfl rfl rfl ?_; refine hx_plain rfl ?_; refine h_move rfl rfl rfl rfl ?_; refine hx_plain rfl ?_; refine h_nilCheck rfl rfl rfl rfl ?_; refine hx_plain rfl ?_; refine h_fieldAddr0 rfl rfl FC.out rfl rfl ?_; refine hx_plain rfl ?_; refine h_store rfl rfl rfl rfl rfl rfl IC.size (.tail (.tail .head)) rfl rfl (Nat.le_of_ble_eq_true rfl) (List.all_eq_true.1 rfl) ?_; refine hx_nil ?_; refine hq_then ?_; refine hc_seq ?_; refine hc_lex ?_; refine hx_plain rfl ?_; refine h_fieldAddr0 rfl rfl FC.out rfl rfl ?_; refine hx_plain rfl ?_; refine h_load rfl rfl UC.out rfl (.tail (.tail .head)) rfl rfl rfl ?_; refine hx_plain rfl ?_; refine h_fieldAddr0 rfl rfl FC.out rfl rfl ?_; refine hx_plain rfl ?_; refine h_load rfl rfl UC.out rfl (.tail (.tail .head)) rfl rfl rfl ?_; refine hx_plain rfl ?_; refine h_build rfl inferInstance rfl rfl rfl rfl ?_; refine hx_plain rfl ?_; refine h_store rfl rfl rfl rfl rfl rfl IC.size (.tail (.tail (.tail .head))) rfl rfl (Nat.le_of_ble_eq_true rfl) (List.all_eq_true.1 rfl) ?_; refine hx_plain rfl ?_; refine h_assign rfl rfl rfl rfl ?_; refine hx_nil ?_; refine hq_then ?_; refine hc_ret ?_)
    refine hq_R2 (.inr rfl) rfl (rv_cell rfl .head UC.out rfl IC.size) (rv_tmp rfl) (.inr ⟨q.f, q.sl, hf, rfl, rfl⟩) (fun w' h => ?_)
    have hl2 : (qs.eraseIdx k).map (·.f) = (s.del no).l := by
      rw [eraseIdx_map', hl, ← hno, NS.del_at hok hsk]
    have h1 : St w F (netR qs :: rfB p (.slice av (qs.eraseIdx k).length cv) s.given :: rfL (.slice av (qs.eraseIdx k).length cv) (qs.eraseIdx k) :: []) w' := h.sub (.cons (.tail (.tail (.tail (.tail .head)))) (.cons (.tail .head) (.cons (.tail .head) .nil)))
    have h2 := rows_erase hk h1
    have h3 : St w F (rfB p (.slice av (qs.eraseIdx k).length cv) s.given :: rfL (.slice av (qs.eraseIdx k).length cv) (qs.eraseIdx k) :: netR (qs.eraseIdx k) :: [QF.row q]) w' := h2.pulls (.cons (.tail (.tail .head)) (.cons (.tail (.tail .head)) (.cons (.tail .head) (.cons .head .nil))))
    exact (NtR_shut (s := s.del no) hl2 h3).perm (List.Perm.swap _ _ _)
end Go.Proofs.Ytbfmmgbfliebhaa
