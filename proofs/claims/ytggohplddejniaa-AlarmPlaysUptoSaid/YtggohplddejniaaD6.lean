import Derived.Test.YtggohplddejniaaD5
namespace Go.Proofs.Ytggohplddejniaa
open Go Go.Proofs
set_option maxRecDepth 4000

def ddue (now : Int) (l : List Itm) : List KeyP × List Itm := ddueR now l.length l
theorem ddue_stop {now : Int} {l : List Itm} (h : ∀ i, firstR l l.length = some i → ¬ (l.getD i zI).at_ ≤ now) : ddue now l = ([], l) := by
  unfold ddue
  cases hn : l.length with
  | zero => rfl
  | succ m =>
    rw [ddueR]
    cases hf : firstR l l.length with
    | none => rfl
    | some i =>
      dsimp only
      rw [if_neg (h i hf)]
theorem ddue_step {now : Int} {l : List Itm} {i : Nat} (h : firstR l l.length = some i) (hd : (l.getD i zI).at_ ≤ now) : ddue now l = ((l.getD i zI).k :: (ddue now (l.eraseIdx i)).1, (ddue now (l.eraseIdx i)).2) := by
  have hi := firstR_lt l _ i h
  unfold ddue
  rw [List.length_eraseIdx_of_lt hi]
  cases hn : l.length with
  | zero => omega
  | succ m =>
    rw [ddueR, h]
    dsimp only
    rw [if_pos hd]
    rfl

set_option maxHeartbeats 4000000 in
theorem ddue_spec (p : Nat) (l : List Itm) (now : Int) (hl : l.length ≤ 4398046511104) :
    Spec Try.prog 32 [.pointer (some ⟨p, 0, none⟩), .int .i64 now] [DocO p l] (fun v M => M = [DocO p (ddue now l).2, RowV kpE 58 v (ddue now l).1]) := by
  refine spec_of Try.func32 rfl rfl (Nat.le_of_ble_eq_true rfl) (fun w F => ?_)
  (refine hc_seq ?_; refine hc_lex ?_; refine hx_plain rfl ?_; refine h_assign rfl rfl rfl rfl ?_; refine hx_nil ?_; refine hq_then ?_; refine hc_seq ?_; refine hc_lex ?_; refine hx_plain rfl ?_; refine h_assign rfl rfl rfl rfl ?_; refine hx_nil ?_; refine hq_then ?_; refine hc_seq ?_; refine hc_seq ?_; refine hc_lex ?_; refine hx_plain rfl ?_; refine h_move rfl rfl rfl rfl ?_; refine hx_plain rfl ?_)
  refine h_call rfl rfl rfl rfl rfl rfl rfl rfl EC.out (.cons .head .nil) (first_spec p l hl) ?_
  rintro v M ⟨rfl, rfl⟩
  (refine hx_plain rfl ?_; refine h_assign rfl rfl rfl rfl ?_; refine hx_nil ?_; refine hq_then ?_; refine hc_block ?_)
  refine hc_cut (id := 0) (Y := List KeyP × List Itm × Value) (fun x => [(5, x.2.2)]) (fun x => [DocO p x.2.1, RowV kpE 58 x.2.2 x.1]) (fun x => (x.1, x.2.1) = ddue now l) ?_ ?_
  · refine hc_loop (X := List KeyP × List Itm × Value) (fun x => [(0, .pointer (some ⟨p, 0, none⟩)), (1, .int .i64 now), (5, x.2.2), (6, ixv (firstR x.2.1 x.2.1.length))]) (fun x => [DocO p x.2.1, RowV kpE 58 x.2.2 x.1])
      (fun x => x.1.length + x.2.1.length ≤ 4398046511104 ∧ (x.1 ++ (ddue now x.2.1).1, (ddue now x.2.1).2) = ddue now l) (fun x => x.2.1.length) ([], l, .slice none 0 0) (.cons rfl (.cons rfl (.cons rfl (.cons rfl .nil)))) ⟨by simpa using hl, rfl⟩ (fun _ h => St.perm (List.Perm.swap _ _ _) (St.rowV_nil h)) ?_
    clear hl
    rintro ⟨out, b, v⟩ ⟨hl, hd⟩
    dsimp only at hl hd ⊢
    cases hf : firstR b b.length with
    | none =>
      dsimp only [ixv]
      (refine hc_seq ?_; refine hc_seq ?_; refine hc_lex ?_; refine hx_plain rfl ?_; refine h_move rfl rfl rfl rfl ?_; refine hx_plain rfl ?_; refine h_cmp rfl rfl rfl rfl rfl rfl ?_; refine hx_plain rfl ?_; refine h_move rfl rfl rfl rfl ?_; refine hx_skip rfl rfl rfl rfl rfl rfl ?_; refine hx_skip rfl rfl rfl rfl rfl rfl ?_; refine hx_skip rfl rfl rfl rfl rfl rfl ?_; refine hx_skip rfl rfl rfl rfl rfl rfl ?_; refine hx_skip rfl rfl rfl rfl rfl rfl ?_; refine hx_skip rfl rfl rfl rfl rfl rfl ?_; refine hx_skip rfl rfl rfl rfl rfl rfl ?_; refine hx_skip rfl rfl rfl rfl rfl rfl ?_; refine hx_skip rfl rfl rfl rfl rfl rfl ?_; refine hx_skip rfl rfl rfl rfl rfl rfl ?_; refine hx_plain rfl ?_; refine h_pickF rfl rfl rfl rfl rfl ?_; refine hx_nil ?_; refine hq_then ?_; refine hc_condF rfl ?_; refine hc_exit ?_; refine hq_exit_then ?_; refine hq_exit_then ?_)
      refine hq_cut (out, b, v) (by rw [← hd, ddue_stop (fun i hi => by rw [hf] at hi; cases hi)]; simp) (.cons rfl .nil) (fun _ h => h)
    | some i =>
      have hi := firstR_lt b _ i hf
      obtain ⟨q, hq⟩ : ∃ q, b[i] = q := ⟨_, rfl⟩
      have e1 : b[((i : Nat) : Int).toNat]? = some q := by rw [← hq]; exact List.getElem?_eq_getElem hi
      have d1 : b.getD i zI = q := getD_some e1
      have her := List.length_eraseIdx_of_lt hi
      dsimp only [ixv]
      refine hc_open .head DocO_open ?_
      rintro hv
      refine hc_rowV (.tail .head) ?_ ?_
      · intro e2 e3
        subst e2 e3
        exact absurd hi (Nat.not_lt_zero _)
      · rintro g cap rfl
        by_cases hdue : q.at_ ≤ now
        · have hstep := ddue_step hf (by rw [d1]; exact hdue)
          rw [d1] at hstep
          (refine hc_seq ?_; refine hc_seq ?_; refine hc_lex ?_; refine hx_plain rfl ?_; refine h_move rfl rfl rfl rfl ?_; refine hx_plain rfl ?_; refine h_cmp rfl rfl rfl rfl rfl rfl ?_; refine hx_plain rfl ?_; refine h_move rfl rfl rfl rfl ?_; refine hx_yes rfl rfl rfl ?_; refine h_move rfl rfl rfl rfl ?_; refine hx_yes rfl rfl rfl ?_; refine h_nilCheck rfl rfl rfl rfl ?_; refine hx_yes rfl rfl rfl ?_; refine h_fieldAddr0 rfl rfl FC.out rfl rfl ?_; refine hx_yes rfl rfl rfl ?_; refine h_load rfl rfl UC.out rfl (.tail .head) rfl rfl rfl ?_; refine hx_yes rfl rfl rfl ?_; refine h_move rfl rfl rfl rfl ?_; refine hx_yes rfl rfl rfl ?_; refine h_rowAddr rfl rfl rfl UC.out IC.size (by omega) (by omega) rfl rfl ?_; refine hx_yes rfl rfl rfl ?_; refine h_fieldAddr rfl rfl FC.out rfl rfl ?_; refine hx_yes rfl rfl rfl ?_; refine h_rowLoad rfl .head rfl UC.out rfl (by with_reducible assumption) rfl rfl rfl ?_; refine hx_yes rfl rfl rfl ?_; refine h_move rfl rfl rfl rfl ?_; refine hx_yes rfl rfl rfl ?_; refine h_cmp rfl rfl rfl rfl rfl rfl ?_; refine hx_plain rfl ?_; refine h_pickT rfl rfl rfl rfl rfl ?_; refine hx_nil ?_; refine hq_then ?_; refine hc_condDT rfl (by omega) ?_; refine hc_skip ?_; refine hq_then ?_; refine hc_seq ?_; refine hc_block ?_; refine hc_seq ?_; refine hc_lex ?_; refine hx_plain rfl ?_; refine h_move rfl rfl rfl rfl ?_; refine hx_plain rfl ?_; refine h_move rfl rfl rfl rfl ?_; refine hx_plain rfl ?_; refine h_nilCheck rfl rfl rfl rfl ?_; refine hx_plain rfl ?_; refine h_fieldAddr0 rfl rfl FC.out rfl rfl ?_; refine hx_plain rfl ?_; refine h_load rfl rfl UC.out rfl (.tail .head) rfl rfl rfl ?_; refine hx_plain rfl ?_; refine h_move rfl rfl rfl rfl ?_; refine hx_plain rfl ?_; refine h_rowAddr rfl rfl rfl UC.out IC.size (by omega) (by omega) rfl rfl ?_; refine hx_plain rfl ?_; refine h_fieldAddr rfl rfl FC.out rfl rfl ?_; refine hx_plain rfl ?_; refine h_rowLoadP rfl .head rfl UC.out rfl IC.size (by with_reducible assumption) (Nat.le_of_ble_eq_true rfl) rfl rfl rfl ?_; refine hx_plain rfl ?_; (refine h_buildSliceW rfl rfl UC.out IC.size IC.zero rfl rfl (by intro v hv; simp at hv; first | (subst hv; rfl) | (rcases hv with rfl | rfl <;> rfl) | (rcases hv with rfl | rfl | rfl <;> rfl)) (by omega) rfl rfl (fun _ => ?_)); refine hx_plain rfl ?_)
          refine h_append (E := kpE) (T := 58) (xs := out) (ys := [q.k]) rfl rfl rfl rfl rfl UC.out IC.out rfl (.cons (.tail (.tail (.tail .head))) (.cons .head .nil)) rfl (one_row kpE _) (by unfold maxLen; omega) (by omega) rfl rfl (fun v' _ => ?_)
          (refine hx_plain rfl ?_; refine h_assign rfl rfl rfl rfl ?_; refine hx_nil ?_; refine hq_then ?_; refine hc_lex ?_; refine hx_plain rfl ?_; refine h_move rfl rfl rfl rfl ?_; refine hx_plain rfl ?_; refine h_move rfl rfl rfl rfl ?_; refine hx_plain rfl ?_)
          refine hx1_conv rfl rfl (C' := St w F (DocO p b :: [RowV kpE 58 v' (out ++ [q.k])])) (fun _ h => DocO_mk rfl (h.sub (.cons (.tail (.tail (.tail .head))) (.cons (.tail (.tail .head)) (.cons .head .nil))))) ?_
          refine h_call rfl rfl rfl rfl rfl rfl rfl rfl EC.out (.cons .head .nil) (without_spec p b i hi (by omega)) ?_
          rintro v2 M ⟨rfl, rfl⟩
          (refine hx_nil ?_; refine hq_norm_block ?_; refine hq_then ?_; refine hc_lex ?_; refine hx_plain rfl ?_; refine h_move rfl rfl rfl rfl ?_; refine hx_plain rfl ?_)
          refine h_call rfl rfl rfl rfl rfl rfl rfl rfl EC.out (.cons .head .nil) (first_spec p (b.eraseIdx i) (by omega)) ?_
          rintro v3 M ⟨rfl, rfl⟩
          (refine hx_plain rfl ?_; refine h_assign rfl rfl rfl rfl ?_; refine hx_nil ?_)
          exact hq_round (out ++ [q.k], b.eraseIdx i, v') (by show (b.eraseIdx i).length < b.length; omega) ⟨by show (out ++ [_]).length + (b.eraseIdx i).length ≤ _; simp only [List.length_append, List.length_cons, List.length_nil]; omega, by rw [← hd, hstep]; simp⟩ (.cons rfl (.cons rfl (.cons rfl (.cons rfl .nil)))) (fun _ h => h)
        · (refine hc_seq ?_; refine hc_seq ?_; refine hc_lex ?_; refine hx_plain rfl ?_; refine h_move rfl rfl rfl rfl ?_; refine hx_plain rfl ?_; refine h_cmp rfl rfl rfl rfl rfl rfl ?_; refine hx_plain rfl ?_; refine h_move rfl rfl rfl rfl ?_; refine hx_yes rfl rfl rfl ?_; refine h_move rfl rfl rfl rfl ?_; refine hx_yes rfl rfl rfl ?_; refine h_nilCheck rfl rfl rfl rfl ?_; refine hx_yes rfl rfl rfl ?_; refine h_fieldAddr0 rfl rfl FC.out rfl rfl ?_; refine hx_yes rfl rfl rfl ?_; refine h_load rfl rfl UC.out rfl (.tail .head) rfl rfl rfl ?_; refine hx_yes rfl rfl rfl ?_; refine h_move rfl rfl rfl rfl ?_; refine hx_yes rfl rfl rfl ?_; refine h_rowAddr rfl rfl rfl UC.out IC.size (by omega) (by omega) rfl rfl ?_; refine hx_yes rfl rfl rfl ?_; refine h_fieldAddr rfl rfl FC.out rfl rfl ?_; refine hx_yes rfl rfl rfl ?_; refine h_rowLoad rfl .head rfl UC.out rfl (by with_reducible assumption) rfl rfl rfl ?_; refine hx_yes rfl rfl rfl ?_; refine h_move rfl rfl rfl rfl ?_; refine hx_yes rfl rfl rfl ?_; refine h_cmp rfl rfl rfl rfl rfl rfl ?_; refine hx_plain rfl ?_; refine h_pickT rfl rfl rfl rfl rfl ?_; refine hx_nil ?_; refine hq_then ?_; refine hc_condDF rfl (by omega) ?_; refine hc_exit ?_; refine hq_exit_then ?_; refine hq_exit_then ?_)
          refine hq_cut (out, b, v) (by rw [← hd, ddue_stop (fun j hj => by rw [hf] at hj; cases hj; rw [d1]; exact hdue)]; simp) (.cons rfl .nil) (fun _ h => ?_)
          exact DocO_mk rfl (h.sub (.cons (.tail .head) (.cons .head (.cons .head .nil))))
  · rintro ⟨out, b, v⟩ hd
    dsimp only at hd ⊢
    rw [← hd]
    (refine hq_exit_block ?_; refine hq_then ?_; refine hc_seq ?_; refine hc_lex ?_; refine hx_plain rfl ?_; refine h_move rfl rfl rfl rfl ?_; refine hx_plain rfl ?_; refine h_assign rfl rfl rfl rfl ?_; refine hx_nil ?_; refine hq_then ?_; refine hc_ret ?_)
    refine hq_ret1 (.inr rfl) rfl rfl rfl (fun _ h => h)
end Go.Proofs.Ytggohplddejniaa
