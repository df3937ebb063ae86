import Derived.Test.YtggohplddejniaaL2
namespace Go.Proofs.Ytggohplddejniaa
open Go Go.Proofs
set_option maxRecDepth 4000
abbrev IT := AI.T
abbrev AlI := AI.AlO
abbrev e0 : AS Int := ⟨[], []⟩

set_option maxHeartbeats 4000000 in
theorem head_spec : Spec0 Try.prog 7 [] (.bool true) := by
  refine spec_of Try.func7 rfl rfl (Nat.le_of_ble_eq_true rfl) (fun w F => ?_)
  (refine hc_seq ?_; refine hc_lex ?_; refine hx_plain rfl ?_; refine h_assign rfl rfl rfl rfl ?_; refine hx_nil ?_; refine hq_then ?_; refine hc_seq ?_; refine hc_lex ?_; refine hx_plain rfl ?_)
  refine h_call rfl rfl rfl rfl rfl rfl rfl rfl EC.out .nil AI.new_spec ?_
  rintro v M ⟨p, rfl, rfl⟩
  have i0 : Inv IT e0 := Inv.new
  (refine hx_plain rfl ?_; refine h_assign rfl rfl rfl rfl ?_; refine hx_nil ?_; refine hq_then ?_; refine hc_seq ?_; refine hc_seq ?_; refine hc_lex ?_; refine hx_plain rfl ?_; refine h_move rfl rfl rfl rfl ?_; refine hx_plain rfl ?_; refine h_eqNil rfl rfl rfl UC.out rfl rfl ?_; refine hx_nil ?_; refine hq_then ?_; refine hc_condF rfl ?_; refine hc_skip ?_; refine hq_then ?_; refine hc_seq ?_; refine hc_lex ?_; refine hx_plain rfl ?_; refine h_move rfl rfl rfl rfl ?_; refine hx_plain rfl ?_)
  refine h_call rfl rfl rfl rfl rfl rfl rfl rfl EC.out (.cons .head .nil) (AI.set_spec p e0 1 1 i0.wf (by decide)) ?_
  rintro v M ⟨rfl, rfl⟩
  have i1 := (i0.set 1 1).1
  (refine hx_nil ?_; refine hq_then ?_; refine hc_seq ?_; refine hc_lex ?_; refine hx_plain rfl ?_; refine h_move rfl rfl rfl rfl ?_; refine hx_plain rfl ?_)
  refine h_call rfl rfl rfl rfl rfl rfl rfl rfl EC.out (.cons .head .nil) (AI.cancel_spec p _ 1 i1.wf (by decide +kernel)) ?_
  rintro v M ⟨rfl, rfl⟩
  have i2 := (i1.cancel 1).1
  rw [show AS.has IT (AS.set IT e0 1 1) 1 = true by kernel_rfl]
  (refine hx_plain rfl ?_; refine h_assign rfl rfl rfl rfl ?_; refine hx_nil ?_; refine hq_then ?_; refine hc_seq ?_; refine hc_seq ?_; refine hc_lex ?_; refine hx_plain rfl ?_; refine h_move rfl rfl rfl rfl ?_; refine hx_plain rfl ?_; refine h_not rfl rfl rfl rfl ?_; refine hx_plain rfl ?_; refine h_move rfl rfl rfl rfl ?_; refine hx_yes rfl rfl rfl ?_; refine h_move rfl rfl rfl rfl ?_; refine hx_yes rfl rfl rfl ?_)
  refine h_call rfl rfl rfl rfl rfl rfl rfl rfl EC.out (.cons .head .nil) (AI.len_spec p _) ?_
  rintro v M ⟨rfl, rfl⟩
  rw [show (AS.cancel IT (AS.set IT e0 1 1) 1).xs.length = 0 by kernel_rfl]
  (refine hx_yes rfl rfl rfl ?_; refine h_cmp rfl rfl rfl rfl rfl rfl ?_; refine hx_plain rfl ?_; refine h_pickF rfl rfl rfl rfl rfl ?_; refine hx_nil ?_; refine hq_then ?_; refine hc_condF rfl ?_; refine hc_skip ?_; refine hq_then ?_; refine hc_seq ?_; refine hc_lex ?_; refine hx_plain rfl ?_; refine h_move rfl rfl rfl rfl ?_; refine hx_plain rfl ?_)
  refine h_call rfl rfl rfl rfl rfl rfl rfl rfl EC.out (.cons .head .nil) (AI.set_spec p _ 7 20 i2.wf (by decide +kernel)) ?_
  rintro v M ⟨rfl, rfl⟩
  have i3 := (i2.set 7 20).1
  (refine hx_nil ?_; refine hq_then ?_; refine hc_seq ?_; refine hc_lex ?_; refine hx_plain rfl ?_; refine h_move rfl rfl rfl rfl ?_; refine hx_plain rfl ?_)
  refine h_call rfl rfl rfl rfl rfl rfl rfl rfl EC.out (.cons .head .nil) (AI.set_spec p _ 5 10 i3.wf (by decide +kernel)) ?_
  rintro v M ⟨rfl, rfl⟩
  have i4 := (i3.set 5 10).1
  (refine hx_nil ?_; refine hq_then ?_; refine hc_seq ?_; refine hc_lex ?_; refine hx_plain rfl ?_; refine h_move rfl rfl rfl rfl ?_; refine hx_plain rfl ?_)
  refine h_call rfl rfl rfl rfl rfl rfl rfl rfl EC.out (.cons .head .nil) (AI.set_spec p _ 9 10 i4.wf (by decide +kernel)) ?_
  rintro v M ⟨rfl, rfl⟩
  have i5 := (i4.set 9 10).1
  (refine hx_nil ?_; refine hq_then ?_; refine hc_seq ?_; refine hc_lex ?_; refine hx_plain rfl ?_; refine h_move rfl rfl rfl rfl ?_; refine hx_plain rfl ?_)
  refine h_call rfl rfl rfl rfl rfl rfl rfl rfl EC.out (.cons .head .nil) (AI.set_spec p _ 7 10 i5.wf (by decide +kernel)) ?_
  rintro v M ⟨rfl, rfl⟩
  have i6 := (i5.set 7 10).1
  obtain ⟨s, hs⟩ : ∃ s, s = AS.set IT (AS.set IT (AS.set IT (AS.set IT (AS.cancel IT (AS.set IT e0 1 1) 1) 7 20) 5 10) 9 10) 7 10 := ⟨_, rfl⟩
  have f1 : (s.xs.getD 0 (tz IT)).k = 5 := by rw [hs]; kernel_rfl
  have f2 : (s.xs.getD 0 (tz IT)).at_ = 10 := by rw [hs]; kernel_rfl
  have f3 : decide (0 < s.xs.length) = true := by rw [hs]; kernel_rfl
  have f4 : s.due IT 9 = ([], s) := by rw [AS.due, dueR_stop (by rw [f2]; omega)]
  have f5 : (s.due IT 10).1 = [5, 7, 9] := by rw [hs]; kernel_rfl
  have f6 : (s.due IT 10).2.xs.length = 0 := by rw [hs]; kernel_rfl
  have f7 : s.xs.length = 3 := by rw [hs]; kernel_rfl
  rw [← hs] at i6 ⊢
  clear hs i0 i1 i2 i3 i4 i5
  (refine hx_nil ?_; refine hq_then ?_; refine hc_seq ?_; refine hc_lex ?_; refine hx_plain rfl ?_; refine h_move rfl rfl rfl rfl ?_; refine hx_plain rfl ?_)
  refine h_call rfl rfl rfl rfl rfl rfl rfl rfl EC.out (.cons .head .nil) (AI.next_spec p s) ?_
  rintro v M ⟨rfl, rfl⟩
  rw [f1, f2, f3]
  (refine hx_plain rfl ?_; refine h_move rfl rfl rfl rfl ?_; refine hx_plain rfl ?_; refine h_extract rfl rfl rfl rfl rfl ?_; refine hx_plain rfl ?_; refine h_extract rfl rfl rfl rfl rfl ?_; refine hx_plain rfl ?_; refine h_extract rfl rfl rfl rfl rfl ?_; refine hx_plain rfl ?_; refine h_assign rfl rfl rfl rfl ?_; refine hx_plain rfl ?_; refine h_assign rfl rfl rfl rfl ?_; refine hx_plain rfl ?_; refine h_assign rfl rfl rfl rfl ?_; refine hx_nil ?_; refine hq_then ?_; refine hc_seq ?_; refine hc_lex ?_; refine hx_plain rfl ?_; refine h_move rfl rfl rfl rfl ?_; refine hx_plain rfl ?_)
  refine h_call rfl rfl rfl rfl rfl rfl rfl rfl EC.out (.cons .head .nil) (AI.due_spec p s 9 i6 (by rw [f7]; decide)) ?_
  rintro v9 M rfl
  rw [f4]
  (refine hx_plain rfl ?_; refine h_assign rfl rfl rfl rfl ?_; refine hx_nil ?_; refine hq_then ?_; refine hc_seq ?_; refine hc_lex ?_; refine hx_plain rfl ?_; refine h_move rfl rfl rfl rfl ?_; refine hx_plain rfl ?_)
  refine h_call rfl rfl rfl rfl rfl rfl rfl rfl EC.out (.cons .head .nil) (AI.due_spec p s 10 i6 (by rw [f7]; decide)) ?_
  rintro v10 M rfl
  rw [f5]
  (refine hx_plain rfl ?_; refine h_assign rfl rfl rfl rfl ?_; refine hx_nil ?_; refine hq_then ?_; refine hc_seq ?_; refine hc_lex ?_; refine hx_plain rfl ?_; refine h_move rfl rfl rfl rfl ?_; refine hx_plain rfl ?_; refine h_cmp rfl rfl rfl rfl rfl rfl ?_; refine hx_plain rfl ?_; refine h_move rfl rfl rfl rfl ?_; refine hx_yes rfl rfl rfl ?_; refine h_move rfl rfl rfl rfl ?_; refine hx_yes rfl rfl rfl ?_; refine h_cmp rfl rfl rfl rfl rfl rfl ?_; refine hx_plain rfl ?_; refine h_pickT rfl rfl rfl rfl rfl ?_; refine hx_plain rfl ?_; refine h_move rfl rfl rfl rfl ?_; refine hx_yes rfl rfl rfl ?_; refine h_move rfl rfl rfl rfl ?_; refine hx_plain rfl ?_; refine h_pickT rfl rfl rfl rfl rfl ?_; refine hx_plain rfl ?_; refine h_move rfl rfl rfl rfl ?_; refine hx_yes rfl rfl rfl ?_; refine h_move rfl rfl rfl rfl ?_; refine hx_yes rfl rfl rfl ?_)
  refine h_lenV (E := intE) (T := 3) (xs := ([], s).1) rfl rfl (.tail (.tail .head)) rfl UC.out rfl rfl rfl ?_
  (refine hx_yes rfl rfl rfl ?_; refine h_cmp rfl rfl rfl rfl rfl rfl ?_; refine hx_plain rfl ?_; refine h_pickT rfl rfl rfl rfl rfl ?_; refine hx_plain rfl ?_; refine h_move rfl rfl rfl rfl ?_; refine hx_yes rfl rfl rfl ?_; refine h_move rfl rfl rfl rfl ?_; refine hx_yes rfl rfl rfl ?_; (refine h_buildSlice rfl rfl rfl UC.out IC.size IC.zero rfl rfl (by intro v hv; simp at hv; first | (subst hv; rfl) | (rcases hv with rfl | rfl <;> rfl) | (rcases hv with rfl | rfl | rfl <;> rfl)) (by omega) rfl rfl (fun _ => ?_)); refine hx_yes rfl rfl rfl ?_)
  refine h_callR (v := .bool true) rfl rfl rfl rfl rfl rfl EC.out (fun w' h => by
    have := sameInts (h.rdRowV (xs := [5, 7, 9]) (.tail (.tail .head))) (St.rdBlk (E := intE) [5, 7, 9] h .head rfl (by decide) (flat_row intE [5, 7, 9]))
    simpa using this) ?_
  (refine hx_plain rfl ?_; refine h_pickT rfl rfl rfl rfl rfl ?_; refine hx_plain rfl ?_; refine h_move rfl rfl rfl rfl ?_; refine hx_yes rfl rfl rfl ?_; refine h_move rfl rfl rfl rfl ?_; refine hx_yes rfl rfl rfl ?_)
  refine h_call rfl rfl rfl rfl rfl rfl rfl rfl EC.out (.cons (.tail .head) .nil) (AI.len_spec p _) ?_
  rintro v M ⟨rfl, rfl⟩
  rw [f6]
  (refine hx_yes rfl rfl rfl ?_; refine h_cmp rfl rfl rfl rfl rfl rfl ?_; refine hx_plain rfl ?_; refine h_pickT rfl rfl rfl rfl rfl ?_; refine hx_plain rfl ?_; refine h_assign rfl rfl rfl rfl ?_; refine hx_nil ?_; refine hq_then ?_; refine hc_ret ?_)
  refine hq_ret1 (.inr rfl) rfl rfl ⟨rfl, rfl⟩ (fun _ h => h.emp)
end Go.Proofs.Ytggohplddejniaa
