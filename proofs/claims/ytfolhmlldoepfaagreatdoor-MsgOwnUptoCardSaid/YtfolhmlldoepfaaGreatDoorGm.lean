import Derived.Test.YtfolhmlldoepfaaGreatDoorGn
import Derived.Test.YtfolhmlldoepfaaGreatDoorGc
set_option linter.unusedVariables false
set_option linter.unusedSimpArgs false
namespace Go.Proofs.YtfolhmlldoepfaaGreatDoor
open Go Go.Proofs Go.RowKit
set_option maxRecDepth 4000
structure ReqV where
  client : Int
  seq : Int
  ack : Int
  epoch : Int
  op : Int
  id : Int
  id2 : Int
  off : Int
  len : Int
  path : ByteArray
  name : ByteArray
  name2 : ByteArray
  dv : SlV
structure RepV where
  client : Int
  seq : Int
  epoch : Int
  op : Int
  status : Int
  aid : Int
  akind : Int
  asize : Int
  achange : Int
  dv : SlV
  lv : SlV
  more : Bool
abbrev ReqV.cs (r : ReqV) : Array Value := #[.int .i64 r.client, .int .i64 r.seq, .int .i64 r.ack, .int .i64 r.epoch, .int .i64 r.op, .int .i64 r.id, .int .i64 r.id2, .int .i64 r.off, .int .i64 r.len, .string r.path, .string r.name, .string r.name2, r.dv.v]
abbrev RepV.cs (r : RepV) : Array Value := #[.int .i64 r.client, .int .i64 r.seq, .int .i64 r.epoch, .int .i64 r.op, .int .i64 r.status, .int .i64 r.aid, .int .i64 r.akind, .int .i64 r.asize, .int .i64 r.achange, r.dv.v, r.lv.v, .bool r.more]
def top : Int := 4611686018427387904
def isCl (c : Int) : Bool := decide (0 ≤ c ∧ c < 8)
def isOpB (c : Int) : Bool := decide (1 ≤ c ∧ c ≤ 10)
def isIdB (c : Int) : Bool := decide (1 ≤ c ∧ c ≤ 562949953421311)
def isSt (e : Int) : Bool := decide (e = 0 ∨ e = 91 ∨ e = 92 ∨ e = 101 ∨ e = 121 ∨ e = 122 ∨ e = 123 ∨ e = 124 ∨ e = 125 ∨ e = 126 ∨ e = 127 ∨ e = 151 ∨ e = 152)
def isNm (s : ByteArray) : Bool := decide (Nm.checkV s = 0)
def isNmN (s : ByteArray) : Bool := s.toList == (⟨#[]⟩ : ByteArray).toList || isNm s
def isPth (s : ByteArray) : Bool := decide ((spl s).2 = 0)
/-- What is judged ahead of the operation's fields. -/
def ReqV.head (r : ReqV) : Int := if ¬ (0 ≤ r.client ∧ r.client < 8) then 43 else if r.seq < 1 ∨ top < r.seq ∨ r.ack < 0 ∨ r.seq ≤ r.ack then 44 else if r.epoch < 0 ∨ top < r.epoch then 45 else if ¬ (1 ≤ r.op ∧ r.op ≤ 10) then 42 else 0
def RepV.head (r : RepV) : Int := if ¬ (0 ≤ r.client ∧ r.client < 8) then 43 else if r.seq < 1 ∨ top < r.seq then 44 else if r.epoch < 1 ∨ top < r.epoch then 45 else if ¬ (1 ≤ r.op ∧ r.op ≤ 10) then 42 else if isSt r.status = false then 47 else 0
theorem isClient_spec (c : Int) : Spec0 Tryz.prog 86 [.int .i64 c] (.bool (isCl c)) := by
  refine spec_of Tryz.func86 rfl rfl (Nat.le_of_ble_eq_true rfl) (fun w F => ?_)
  (refine Zx rfl rfl rfl rfl rfl ?_; refine Zw rfl rfl rfl rfl rfl ?_; refine Zc rfl rfl rfl rfl rfl rfl rfl ?_; refine Zm rfl rfl rfl rfl rfl ?_; refine hx_gcaseD rfl rfl rfl (fun hc => ?_) (fun hc => ?_); refine hx_yes rfl rfl rfl ?_; refine h_move rfl rfl rfl rfl ?_; refine hx_yes rfl rfl rfl ?_; refine h_cmp rfl rfl rfl rfl rfl rfl ?_; refine Zq rfl rfl rfl rfl rfl rfl ?_; refine Zn rfl rfl rfl rfl rfl ?_; refine hc_ret ?_; rotate_left; (iterate 2 (refine hx_skip rfl rfl rfl rfl rfl rfl ?_)); refine Zp rfl rfl rfl rfl rfl rfl ?_; refine Zn rfl rfl rfl rfl rfl ?_; refine hc_ret ?_; rotate_left)
  all_goals (refine hq_ret1 (.inr rfl) rfl rfl ⟨congrArg Value.bool ?_, rfl⟩ (fun _ h => h.emp); unfold isCl; first | (rw [decide_eq_decide]; omega) | (rw [eq_comm, decide_eq_false_iff_not]; omega) | (rw [eq_comm, decide_eq_true_iff]; omega))
theorem isOp_spec (c : Int) : Spec0 Tryz.prog 87 [.int .i64 c] (.bool (isOpB c)) := by
  refine spec_of Tryz.func87 rfl rfl (Nat.le_of_ble_eq_true rfl) (fun w F => ?_)
  (refine Zx rfl rfl rfl rfl rfl ?_; refine Zw rfl rfl rfl rfl rfl ?_; refine Zc rfl rfl rfl rfl rfl rfl rfl ?_; refine Zm rfl rfl rfl rfl rfl ?_; refine hx_gcaseD rfl rfl rfl (fun hc => ?_) (fun hc => ?_); refine hx_yes rfl rfl rfl ?_; refine h_move rfl rfl rfl rfl ?_; refine hx_yes rfl rfl rfl ?_; refine h_cmp rfl rfl rfl rfl rfl rfl ?_; refine Zq rfl rfl rfl rfl rfl rfl ?_; refine Zn rfl rfl rfl rfl rfl ?_; refine hc_ret ?_; rotate_left; (iterate 2 (refine hx_skip rfl rfl rfl rfl rfl rfl ?_)); refine Zp rfl rfl rfl rfl rfl rfl ?_; refine Zn rfl rfl rfl rfl rfl ?_; refine hc_ret ?_; rotate_left)
  all_goals (refine hq_ret1 (.inr rfl) rfl rfl ⟨congrArg Value.bool ?_, rfl⟩ (fun _ h => h.emp); unfold isOpB; first | (rw [decide_eq_decide]; omega) | (rw [eq_comm, decide_eq_false_iff_not]; omega) | (rw [eq_comm, decide_eq_true_iff]; omega))
theorem isId_spec (c : Int) : Spec0 Tryz.prog 121 [.int .i64 c] (.bool (isIdB c)) := by
  refine spec_of Tryz.func121 rfl rfl (Nat.le_of_ble_eq_true rfl) (fun w F => ?_)
  (refine Zx rfl rfl rfl rfl rfl ?_; refine Zw rfl rfl rfl rfl rfl ?_; refine Zc rfl rfl rfl rfl rfl rfl rfl ?_; refine Zm rfl rfl rfl rfl rfl ?_; refine hx_gcaseD rfl rfl rfl (fun hc => ?_) (fun hc => ?_); refine hx_yes rfl rfl rfl ?_; refine h_move rfl rfl rfl rfl ?_; refine hx_yes rfl rfl rfl ?_; refine h_cmp rfl rfl rfl rfl rfl rfl ?_; refine Zq rfl rfl rfl rfl rfl rfl ?_; refine Zn rfl rfl rfl rfl rfl ?_; refine hc_ret ?_; rotate_left; (iterate 2 (refine hx_skip rfl rfl rfl rfl rfl rfl ?_)); refine Zp rfl rfl rfl rfl rfl rfl ?_; refine Zn rfl rfl rfl rfl rfl ?_; refine hc_ret ?_; rotate_left)
  all_goals (refine hq_ret1 (.inr rfl) rfl rfl ⟨congrArg Value.bool ?_, rfl⟩ (fun _ h => h.emp); unfold isIdB; first | (rw [decide_eq_decide]; omega) | (rw [eq_comm, decide_eq_false_iff_not]; omega) | (rw [eq_comm, decide_eq_true_iff]; omega))
set_option maxHeartbeats 8000000 in
theorem isStatus_spec (c : Int) : Spec0 Tryz.prog 95 [.int .i64 c] (.bool (isSt c)) := by
  refine spec_of Tryz.func95 rfl rfl (Nat.le_of_ble_eq_true rfl) (fun w F => ?_)
  (refine Zx rfl rfl rfl rfl rfl ?_; refine hc_seq ?_; refine Zw rfl rfl rfl rfl rfl ?_; refine Zt ?_; refine hc_block ?_; refine hc_seq ?_; (iterate 12 (refine Zl rfl ?_; refine h_cmp rfl rfl rfl rfl rfl rfl ?_; refine Zn rfl rfl rfl rfl rfl ?_; refine hc_condD rfl (fun hc => ?_) (fun hc => ?_); refine hc_skip ?_; refine hq_then ?_; refine hc_condDT rfl (by omega) ?_; refine Zx rfl rfl rfl rfl rfl ?_; refine hc_ret ?_; refine hq_ret_block ?_; refine hq_ret_then ?_; rotate_left)); refine hc_lex ?_; refine Zc rfl rfl rfl rfl rfl rfl rfl ?_; refine Zn rfl rfl rfl rfl rfl ?_; refine hc_condD rfl (fun hc => ?_) (fun hc => ?_); refine Zx rfl rfl rfl rfl rfl ?_; refine hc_ret ?_; refine hq_ret_block ?_; refine hq_ret_then ?_; rotate_left; refine hc_skip ?_; refine hq_norm_block ?_; refine hq_then ?_; refine Zx rfl rfl rfl rfl rfl ?_; refine hc_ret ?_; rotate_left)
  all_goals (refine hq_ret1 (.inr rfl) rfl rfl ⟨congrArg Value.bool ?_, rfl⟩ (fun _ h => h.emp); unfold isSt; first | (rw [decide_eq_decide]; omega) | (rw [eq_comm, decide_eq_false_iff_not]; omega) | (rw [eq_comm, decide_eq_true_iff]; omega))
theorem isName_reads (s : ByteArray) (w : World) : Calls Tryz.prog 89 [Value.string s].toArray w (fun en w' => en = .returned (.bool (isNm s)) ∧ But w w' nowhere) := by
  refine reads_of Tryz.func89 rfl rfl (Nat.le_of_ble_eq_true rfl) ?_
  (refine Zx rfl rfl rfl rfl rfl ?_; refine Zw rfl rfl rfl rfl rfl ?_; refine hx_plain rfl ?_)
  refine h_callRd rfl rfl rfl rfl rfl rfl EC.out (fun w' h => check_reads s w') ?_
  (refine Zc rfl rfl rfl rfl rfl rfl rfl ?_; refine Zn rfl rfl rfl rfl rfl ?_; refine hc_ret ?_)
  exact hq_ret1 (.inr rfl) rfl rfl ⟨rfl, rfl⟩ (fun _ h => h.emp)
theorem isNameOrNone_reads (s : ByteArray) (w : World) : Calls Tryz.prog 90 [Value.string s].toArray w (fun en w' => en = .returned (.bool (isNmN s)) ∧ But w w' nowhere) := by
  refine reads_of Tryz.func90 rfl rfl (Nat.le_of_ble_eq_true rfl) ?_
  (refine Zx rfl rfl rfl rfl rfl ?_; refine Zw rfl rfl rfl rfl rfl ?_; refine hx_plain rfl ?_; refine h_cmpS rfl rfl rfl rfl rfl rfl ?_; refine Zm rfl rfl rfl rfl rfl ?_; refine hx_gcase rfl rfl rfl (fun hc => ?_) (fun hc => ?_); (iterate 2 (refine hx_skip rfl rfl rfl rfl rfl rfl ?_)); refine Zq rfl rfl rfl rfl rfl rfl ?_; refine Zn rfl rfl rfl rfl rfl ?_; refine hc_ret ?_; rotate_left; refine hx_yes rfl rfl rfl ?_; refine h_move rfl rfl rfl rfl ?_; refine hx_yes rfl rfl rfl ?_; rotate_left)
  · exact hq_ret1 (.inr rfl) rfl rfl ⟨by unfold isNmN; rw [hc]; rfl, rfl⟩ (fun _ h => h.emp)
  refine h_callRd rfl rfl rfl rfl rfl rfl EC.out (fun w' h => isName_reads s w') ?_
  (refine Zp rfl rfl rfl rfl rfl rfl ?_; refine Zn rfl rfl rfl rfl rfl ?_; refine hc_ret ?_)
  exact hq_ret1 (.inr rfl) rfl rfl ⟨by unfold isNmN; rw [hc]; rfl, rfl⟩ (fun _ h => h.emp)
theorem isPath_reads (s : ByteArray) (w : World) : Calls Tryz.prog 91 [Value.string s].toArray w (fun en w' => en = .returned (.bool (isPth s)) ∧ But w w' nowhere) := by
  refine reads_of Tryz.func91 rfl rfl (Nat.le_of_ble_eq_true rfl) ?_
  (refine Zx rfl rfl rfl rfl rfl ?_; refine Zw rfl rfl rfl rfl rfl ?_; refine hx_plain rfl ?_)
  refine h_callW (post := fun u M => ∃ sl : SlV, u = .tuple #[sl.v, .int .i64 (spl s).2] ∧ sl.len = (spl s).1.length ∧ M = [RowV strE 9 sl.v (spl s).1]) rfl rfl rfl rfl rfl rfl rfl rfl EC.out (fun w' h => split_makes s w') ?_
  rintro u M ⟨sl, rfl, _, rfl⟩
  (refine Zm rfl rfl rfl rfl rfl ?_; (iterate 2 (refine hx_plain rfl ?_; refine h_extract rfl rfl rfl rfl rfl ?_)); refine Za rfl rfl rfl rfl rfl ?_; refine Zn rfl rfl rfl rfl rfl ?_; refine Zw rfl rfl rfl rfl rfl ?_; refine Zc rfl rfl rfl rfl rfl rfl rfl ?_; refine Zn rfl rfl rfl rfl rfl ?_; refine hc_ret ?_)
  exact hq_ret1 (.inr rfl) rfl rfl ⟨rfl, rfl⟩ (fun _ h => h.emp)
end Go.Proofs.YtfolhmlldoepfaaGreatDoor
namespace Go.Proofs.YtfolhmlldoepfaaGreatDoor
open Go Go.Proofs Go.RowKit
set_option maxRecDepth 4000
set_option maxHeartbeats 8000000 in
theorem headOfRequest_spec (r : ReqV) : Spec0 Tryz.prog 45 [.agg r.cs] (.int .i64 r.head) := by
  obtain ⟨client, seq, ack, epoch, op, id, id2, off, len, path, name, name2, ⟨da, dn, dc⟩⟩ := r
  refine spec_of Tryz.func45 rfl rfl (Nat.le_of_ble_eq_true rfl) (fun w F => ?_)
  dsimp only [ReqV.cs, SlV.v]
  have ht : top = 4611686018427387904 := rfl
  (refine Zl rfl ?_; (refine h_box rfl rfl rfl rfl rfl rfl (fun _ => ?_)); refine Zn rfl rfl rfl rfl rfl ?_; refine hc_seq ?_; refine hc_block ?_; refine Zl rfl ?_; refine h_fieldAddr0 rfl rfl FC.out rfl rfl ?_; refine Zh rfl rfl rfl rfl rfl rfl rfl ?_; refine hx_plain rfl ?_)
  refine h_callR rfl rfl rfl rfl rfl rfl EC.out ((isClient_spec _).reads _) ?_
  (refine hx_plain rfl ?_; refine h_not rfl rfl rfl rfl ?_; refine Zn rfl rfl rfl rfl rfl ?_; refine hc_cond rfl (fun hc => ?_) (fun hc => ?_); refine Zx rfl rfl rfl rfl rfl ?_; refine hc_ret ?_; refine hq_ret_block ?_; refine hq_ret_then ?_; rotate_left; refine Zl rfl ?_; refine h_fieldAddr0 rfl rfl FC.out rfl rfl ?_; refine Zh rfl rfl rfl rfl rfl rfl rfl ?_; refine Zc rfl rfl rfl rfl rfl rfl rfl ?_; refine Zm rfl rfl rfl rfl rfl ?_; refine hx_gcaseD rfl rfl rfl (fun hc => ?_) (fun hc => ?_); (iterate 2 ((iterate 3 (refine hx_skip rfl rfl rfl rfl rfl rfl ?_)); refine Zq rfl rfl rfl rfl rfl rfl ?_; refine Zm rfl rfl rfl rfl rfl ?_)); (iterate 5 (refine hx_skip rfl rfl rfl rfl rfl rfl ?_)); refine Zq rfl rfl rfl rfl rfl rfl ?_; refine Zn rfl rfl rfl rfl rfl ?_; refine hc_condT rfl ?_; refine Zx rfl rfl rfl rfl rfl ?_; refine hc_ret ?_; refine hq_ret_block ?_; refine hq_ret_then ?_; rotate_left; refine hx_yes rfl rfl rfl ?_; refine h_fieldAddr0 rfl rfl FC.out rfl rfl ?_; refine hx_yes rfl rfl rfl ?_; refine h_load rfl rfl UC.out rfl .head rfl rfl rfl ?_; refine hx_yes rfl rfl rfl ?_; refine h_cmp rfl rfl rfl rfl rfl rfl ?_; refine Zp rfl rfl rfl rfl rfl rfl ?_; refine Zm rfl rfl rfl rfl rfl ?_; refine hx_gcaseD rfl rfl rfl (fun hc => ?_) (fun hc => ?_); (iterate 3 (refine hx_skip rfl rfl rfl rfl rfl rfl ?_)); refine Zq rfl rfl rfl rfl rfl rfl ?_; refine Zm rfl rfl rfl rfl rfl ?_; (iterate 5 (refine hx_skip rfl rfl rfl rfl rfl rfl ?_)); refine Zq rfl rfl rfl rfl rfl rfl ?_; refine Zn rfl rfl rfl rfl rfl ?_; refine hc_condT rfl ?_; refine Zx rfl rfl rfl rfl rfl ?_; refine hc_ret ?_; refine hq_ret_block ?_; refine hq_ret_then ?_; rotate_left; refine hx_yes rfl rfl rfl ?_; refine h_fieldAddr0 rfl rfl FC.out rfl rfl ?_; refine hx_yes rfl rfl rfl ?_; refine h_load rfl rfl UC.out rfl .head rfl rfl rfl ?_; refine hx_yes rfl rfl rfl ?_; refine h_cmp rfl rfl rfl rfl rfl rfl ?_; refine Zp rfl rfl rfl rfl rfl rfl ?_; refine Zm rfl rfl rfl rfl rfl ?_; refine hx_gcaseD rfl rfl rfl (fun hc => ?_) (fun hc => ?_); (iterate 5 (refine hx_skip rfl rfl rfl rfl rfl rfl ?_)); refine Zq rfl rfl rfl rfl rfl rfl ?_; refine Zn rfl rfl rfl rfl rfl ?_; refine hc_condT rfl ?_; refine Zx rfl rfl rfl rfl rfl ?_; refine hc_ret ?_; refine hq_ret_block ?_; refine hq_ret_then ?_; rotate_left; (iterate 2 (refine hx_yes rfl rfl rfl ?_; refine h_fieldAddr0 rfl rfl FC.out rfl rfl ?_; refine hx_yes rfl rfl rfl ?_; refine h_load rfl rfl UC.out rfl .head rfl rfl rfl ?_)); refine hx_yes rfl rfl rfl ?_; refine h_cmp rfl rfl rfl rfl rfl rfl ?_; refine Zp rfl rfl rfl rfl rfl rfl ?_; refine Zn rfl rfl rfl rfl rfl ?_; refine hc_condD rfl (fun hc => ?_) (fun hc => ?_); refine Zx rfl rfl rfl rfl rfl ?_; refine hc_ret ?_; refine hq_ret_block ?_; refine hq_ret_then ?_; rotate_left; refine Zl rfl ?_; refine h_fieldAddr0 rfl rfl FC.out rfl rfl ?_; refine Zh rfl rfl rfl rfl rfl rfl rfl ?_; refine Zc rfl rfl rfl rfl rfl rfl rfl ?_; refine Zm rfl rfl rfl rfl rfl ?_; refine hx_gcaseD rfl rfl rfl (fun hc => ?_) (fun hc => ?_); (iterate 3 (refine hx_skip rfl rfl rfl rfl rfl rfl ?_)); refine Zq rfl rfl rfl rfl rfl rfl ?_; refine Zn rfl rfl rfl rfl rfl ?_; refine hc_condT rfl ?_; refine Zx rfl rfl rfl rfl rfl ?_; refine hc_ret ?_; refine hq_ret_block ?_; refine hq_ret_then ?_; rotate_left; refine hx_yes rfl rfl rfl ?_; refine h_fieldAddr0 rfl rfl FC.out rfl rfl ?_; refine hx_yes rfl rfl rfl ?_; refine h_load rfl rfl UC.out rfl .head rfl rfl rfl ?_; refine hx_yes rfl rfl rfl ?_; refine h_cmp rfl rfl rfl rfl rfl rfl ?_; refine Zp rfl rfl rfl rfl rfl rfl ?_; refine Zn rfl rfl rfl rfl rfl ?_; refine hc_condD rfl (fun hc => ?_) (fun hc => ?_); refine Zx rfl rfl rfl rfl rfl ?_; refine hc_ret ?_; refine hq_ret_block ?_; refine hq_ret_then ?_; rotate_left; refine Zl rfl ?_; refine h_fieldAddr0 rfl rfl FC.out rfl rfl ?_; refine Zh rfl rfl rfl rfl rfl rfl rfl ?_; refine hx_plain rfl ?_; rotate_left)
  any_goals
    refine hq_ret1 (.inr rfl) rfl rfl ⟨congrArg (Value.int .i64) ?_, rfl⟩ (fun _ h => h.emp)
    unfold ReqV.head
    dsimp only
    simp only [isCl, isOpB, Bool.not_eq_true', Bool.not_eq_false', decide_eq_false_iff_not, decide_eq_true_iff] at *
    repeat' split
    all_goals first | rfl | omega | simp_all
  refine h_callR rfl rfl rfl rfl rfl rfl EC.out ((isOp_spec _).reads _) ?_
  (refine hx_plain rfl ?_; refine h_not rfl rfl rfl rfl ?_; refine Zn rfl rfl rfl rfl rfl ?_; refine hc_cond rfl (fun hc => ?_) (fun hc => ?_); refine Zx rfl rfl rfl rfl rfl ?_; refine hc_ret ?_; refine hq_ret_block ?_; refine hq_ret_then ?_; rotate_left; refine hc_skip ?_; refine hq_norm_block ?_; refine hq_then ?_; refine Zx rfl rfl rfl rfl rfl ?_; refine hc_ret ?_; rotate_left)
  any_goals
    refine hq_ret1 (.inr rfl) rfl rfl ⟨congrArg (Value.int .i64) ?_, rfl⟩ (fun _ h => h.emp)
    unfold ReqV.head
    dsimp only
    simp only [isCl, isOpB, Bool.not_eq_true', Bool.not_eq_false', decide_eq_false_iff_not, decide_eq_true_iff] at *
    repeat' split
    all_goals first | rfl | omega | simp_all
set_option maxHeartbeats 8000000 in
theorem headOfReply_spec (r : RepV) : Spec0 Tryz.prog 51 [.agg r.cs] (.int .i64 r.head) := by
  obtain ⟨client, seq, epoch, op, status, aid, akind, asize, achange, ⟨da, dn, dc⟩, ⟨la, ln, lc⟩, more⟩ := r
  refine spec_of Tryz.func51 rfl rfl (Nat.le_of_ble_eq_true rfl) (fun w F => ?_)
  dsimp only [RepV.cs, SlV.v]
  have ht : top = 4611686018427387904 := rfl
  (refine Zl rfl ?_; (refine h_box rfl rfl rfl rfl rfl rfl (fun _ => ?_)); refine Zn rfl rfl rfl rfl rfl ?_; refine hc_seq ?_; refine hc_block ?_; refine Zl rfl ?_; refine h_fieldAddr0 rfl rfl FC.out rfl rfl ?_; refine Zh rfl rfl rfl rfl rfl rfl rfl ?_; refine hx_plain rfl ?_)
  refine h_callR rfl rfl rfl rfl rfl rfl EC.out ((isClient_spec _).reads _) ?_
  (refine hx_plain rfl ?_; refine h_not rfl rfl rfl rfl ?_; refine Zn rfl rfl rfl rfl rfl ?_; refine hc_cond rfl (fun hc => ?_) (fun hc => ?_); refine Zx rfl rfl rfl rfl rfl ?_; refine hc_ret ?_; refine hq_ret_block ?_; refine hq_ret_then ?_; rotate_left; refine Zl rfl ?_; refine h_fieldAddr0 rfl rfl FC.out rfl rfl ?_; refine Zh rfl rfl rfl rfl rfl rfl rfl ?_; refine Zc rfl rfl rfl rfl rfl rfl rfl ?_; refine Zm rfl rfl rfl rfl rfl ?_; refine hx_gcaseD rfl rfl rfl (fun hc => ?_) (fun hc => ?_); (iterate 3 (refine hx_skip rfl rfl rfl rfl rfl rfl ?_)); refine Zq rfl rfl rfl rfl rfl rfl ?_; refine Zn rfl rfl rfl rfl rfl ?_; refine hc_condT rfl ?_; refine Zx rfl rfl rfl rfl rfl ?_; refine hc_ret ?_; refine hq_ret_block ?_; refine hq_ret_then ?_; rotate_left; refine hx_yes rfl rfl rfl ?_; refine h_fieldAddr0 rfl rfl FC.out rfl rfl ?_; refine hx_yes rfl rfl rfl ?_; refine h_load rfl rfl UC.out rfl .head rfl rfl rfl ?_; refine hx_yes rfl rfl rfl ?_; refine h_cmp rfl rfl rfl rfl rfl rfl ?_; refine Zp rfl rfl rfl rfl rfl rfl ?_; refine Zn rfl rfl rfl rfl rfl ?_; refine hc_condD rfl (fun hc => ?_) (fun hc => ?_); refine Zx rfl rfl rfl rfl rfl ?_; refine hc_ret ?_; refine hq_ret_block ?_; refine hq_ret_then ?_; rotate_left; refine Zl rfl ?_; refine h_fieldAddr0 rfl rfl FC.out rfl rfl ?_; refine Zh rfl rfl rfl rfl rfl rfl rfl ?_; refine Zc rfl rfl rfl rfl rfl rfl rfl ?_; refine Zm rfl rfl rfl rfl rfl ?_; refine hx_gcaseD rfl rfl rfl (fun hc => ?_) (fun hc => ?_); (iterate 3 (refine hx_skip rfl rfl rfl rfl rfl rfl ?_)); refine Zq rfl rfl rfl rfl rfl rfl ?_; refine Zn rfl rfl rfl rfl rfl ?_; refine hc_condT rfl ?_; refine Zx rfl rfl rfl rfl rfl ?_; refine hc_ret ?_; refine hq_ret_block ?_; refine hq_ret_then ?_; rotate_left; refine hx_yes rfl rfl rfl ?_; refine h_fieldAddr0 rfl rfl FC.out rfl rfl ?_; refine hx_yes rfl rfl rfl ?_; refine h_load rfl rfl UC.out rfl .head rfl rfl rfl ?_; refine hx_yes rfl rfl rfl ?_; refine h_cmp rfl rfl rfl rfl rfl rfl ?_; refine Zp rfl rfl rfl rfl rfl rfl ?_; refine Zn rfl rfl rfl rfl rfl ?_; refine hc_condD rfl (fun hc => ?_) (fun hc => ?_); refine Zx rfl rfl rfl rfl rfl ?_; refine hc_ret ?_; refine hq_ret_block ?_; refine hq_ret_then ?_; rotate_left; refine Zl rfl ?_; refine h_fieldAddr0 rfl rfl FC.out rfl rfl ?_; refine Zh rfl rfl rfl rfl rfl rfl rfl ?_; refine hx_plain rfl ?_; rotate_left)
  any_goals
    refine hq_ret1 (.inr rfl) rfl rfl ⟨congrArg (Value.int .i64) ?_, rfl⟩ (fun _ h => h.emp)
    unfold RepV.head
    dsimp only
    simp only [isCl, isOpB, Bool.not_eq_true', Bool.not_eq_false', decide_eq_false_iff_not, decide_eq_true_iff] at *
    repeat' split
    all_goals first | rfl | omega | simp_all
  refine h_callR rfl rfl rfl rfl rfl rfl EC.out ((isOp_spec _).reads _) ?_
  (refine hx_plain rfl ?_; refine h_not rfl rfl rfl rfl ?_; refine Zn rfl rfl rfl rfl rfl ?_; refine hc_cond rfl (fun hc => ?_) (fun hc => ?_); refine Zx rfl rfl rfl rfl rfl ?_; refine hc_ret ?_; refine hq_ret_block ?_; refine hq_ret_then ?_; rotate_left; refine Zl rfl ?_; refine h_fieldAddr0 rfl rfl FC.out rfl rfl ?_; refine Zh rfl rfl rfl rfl rfl rfl rfl ?_; refine hx_plain rfl ?_; rotate_left)
  any_goals
    refine hq_ret1 (.inr rfl) rfl rfl ⟨congrArg (Value.int .i64) ?_, rfl⟩ (fun _ h => h.emp)
    unfold RepV.head
    dsimp only
    simp only [isCl, isOpB, Bool.not_eq_true', Bool.not_eq_false', decide_eq_false_iff_not, decide_eq_true_iff] at *
    repeat' split
    all_goals first | rfl | omega | simp_all
  refine h_callR rfl rfl rfl rfl rfl rfl EC.out ((isStatus_spec _).reads _) ?_
  (refine hx_plain rfl ?_; refine h_not rfl rfl rfl rfl ?_; refine Zn rfl rfl rfl rfl rfl ?_; refine hc_cond rfl (fun hc => ?_) (fun hc => ?_); refine Zx rfl rfl rfl rfl rfl ?_; refine hc_ret ?_; refine hq_ret_block ?_; refine hq_ret_then ?_; rotate_left; refine hc_skip ?_; refine hq_norm_block ?_; refine hq_then ?_; refine Zx rfl rfl rfl rfl rfl ?_; refine hc_ret ?_; rotate_left)
  any_goals
    refine hq_ret1 (.inr rfl) rfl rfl ⟨congrArg (Value.int .i64) ?_, rfl⟩ (fun _ h => h.emp)
    unfold RepV.head
    dsimp only
    simp only [isCl, isOpB, Bool.not_eq_true', Bool.not_eq_false', decide_eq_false_iff_not, decide_eq_true_iff] at *
    repeat' split
    all_goals first | rfl | omega | simp_all
end Go.Proofs.YtfolhmlldoepfaaGreatDoor
namespace Go.Proofs.YtfolhmlldoepfaaGreatDoor
open Go Go.Proofs Go.RowKit
set_option maxRecDepth 4000
def attrB (op id kind size change : Int) : Bool := decide ((¬ (op = 3 ∨ op = 4 ∨ op = 5) ∨ kind = 1) ∧ (op ≠ 7 ∨ kind = 2) ∧ (1 ≤ id ∧ id ≤ 562949953421311) ∧ 0 ≤ size ∧ 0 ≤ change ∧ change ≤ top ∧ ((kind = 1 ∧ size ≤ 69632) ∨ (kind = 2 ∧ size % 32 = 0 ∧ size ≤ 8160)))
set_option maxHeartbeats 8000000 in
theorem fineAttr_spec (op id kind size change : Int) : Spec0 Tryz.prog 122 [.agg #[.int .i64 id, .int .i64 kind, .int .i64 size, .int .i64 change], .int .i64 op] (.bool (attrB op id kind size change)) := by
  refine spec_of Tryz.func122 rfl rfl (Nat.le_of_ble_eq_true rfl) (fun w F => ?_)
  have ht : top = 4611686018427387904 := rfl
  refine hc_seq ?_
  refine hc_lex ?_
  (refine hx_plain rfl ?_; (refine h_box rfl rfl rfl rfl rfl rfl (fun _ => ?_)); refine Zn rfl rfl rfl rfl rfl ?_)
  rename_i bx
  refine hc_meet (Y := Unit) (fun _ => [(1, .int .i64 op), (2, .pointer (some ⟨bx, 0, none⟩))]) (fun _ => [Blk bx (.cells #[.int .i64 id, .int .i64 kind, .int .i64 size, .int .i64 change] 27 (0, 0))]) (fun _ => (¬ (op = 3 ∨ op = 4 ∨ op = 5) ∨ kind = 1) ∧ (op ≠ 7 ∨ kind = 2)) ?_ ?_
  · (refine Zw rfl rfl rfl rfl rfl ?_; refine Zt ?_; refine hc_block ?_; refine hc_seq ?_; refine Zl rfl ?_; refine h_cmp rfl rfl rfl rfl rfl rfl ?_; refine Zn rfl rfl rfl rfl rfl ?_; refine hc_condD rfl (fun hc => ?_) (fun hc => ?_); refine hc_skip ?_; refine hq_then ?_; refine hc_condDT rfl (by first | omega | (dsimp only; omega)) ?_; refine Zl rfl ?_; refine h_fieldAddr0 rfl rfl FC.out rfl rfl ?_; refine Zh rfl rfl rfl rfl rfl rfl rfl ?_; refine Zc rfl rfl rfl rfl rfl rfl rfl ?_; refine Zt ?_; refine hc_condD rfl (fun hc => ?_) (fun hc => ?_); refine Zx rfl rfl rfl rfl rfl ?_; refine hc_ret ?_; refine hq_ret_block ?_; refine hq_ret_then ?_; rotate_left; refine hc_skip ?_; refine hq_norm_block ?_; rotate_left; refine Zl rfl ?_; refine h_cmp rfl rfl rfl rfl rfl rfl ?_; refine Zn rfl rfl rfl rfl rfl ?_; refine hc_condD rfl (fun hc => ?_) (fun hc => ?_); refine hc_skip ?_; refine hq_then ?_; refine hc_condDT rfl (by first | omega | (dsimp only; omega)) ?_; refine Zl rfl ?_; refine h_fieldAddr0 rfl rfl FC.out rfl rfl ?_; refine Zh rfl rfl rfl rfl rfl rfl rfl ?_; refine Zc rfl rfl rfl rfl rfl rfl rfl ?_; refine Zt ?_; refine hc_condD rfl (fun hc => ?_) (fun hc => ?_); refine Zx rfl rfl rfl rfl rfl ?_; refine hc_ret ?_; refine hq_ret_block ?_; refine hq_ret_then ?_; rotate_left; refine hc_skip ?_; refine hq_norm_block ?_; rotate_left; refine hc_lex ?_; refine Zc rfl rfl rfl rfl rfl rfl rfl ?_; refine Zn rfl rfl rfl rfl rfl ?_; refine hc_condD rfl (fun hc => ?_) (fun hc => ?_); refine Zl rfl ?_; refine h_fieldAddr0 rfl rfl FC.out rfl rfl ?_; refine Zh rfl rfl rfl rfl rfl rfl rfl ?_; refine Zc rfl rfl rfl rfl rfl rfl rfl ?_; refine Zt ?_; refine hc_condD rfl (fun hc => ?_) (fun hc => ?_); refine Zx rfl rfl rfl rfl rfl ?_; refine hc_ret ?_; refine hq_ret_block ?_; refine hq_ret_then ?_; rotate_left; refine hc_skip ?_; refine hq_norm_block ?_; rotate_left; refine Zl rfl ?_; refine h_cmp rfl rfl rfl rfl rfl rfl ?_; refine Zn rfl rfl rfl rfl rfl ?_; refine hc_condD rfl (fun hc => ?_) (fun hc => ?_); refine Zl rfl ?_; refine h_fieldAddr0 rfl rfl FC.out rfl rfl ?_; refine Zh rfl rfl rfl rfl rfl rfl rfl ?_; refine Zc rfl rfl rfl rfl rfl rfl rfl ?_; refine Zt ?_; refine hc_condD rfl (fun hc => ?_) (fun hc => ?_); refine Zx rfl rfl rfl rfl rfl ?_; refine hc_ret ?_; refine hq_ret_block ?_; refine hq_ret_then ?_; (iterate 2 (rotate_left; refine hc_skip ?_; refine hq_norm_block ?_)); rotate_left)
    all_goals first | (refine hq_ret1 (.inr rfl) rfl rfl ⟨congrArg Value.bool ?_, rfl⟩ (fun _ h => h.emp); unfold attrB; first | (rw [eq_comm, decide_eq_false_iff_not]; omega) | (rw [decide_eq_decide]; omega)) | exact hq_met () (by omega) (.cons rfl (.cons rfl .nil)) (fun _ h => h)
  rintro ⟨⟩ ⟨hk1, hk2⟩
  (refine hc_seq ?_; refine Zl rfl ?_; refine h_fieldAddr0 rfl rfl FC.out rfl rfl ?_; refine Zh rfl rfl rfl rfl rfl rfl rfl ?_; refine hx_plain rfl ?_)
  refine h_callR rfl rfl rfl rfl rfl rfl EC.out ((isId_spec _).reads _) ?_
  obtain ⟨b, hb⟩ : ∃ b, isIdB id = b := ⟨_, rfl⟩
  rw [hb]
  unfold isIdB at hb
  cases b
  ·
    simp only [decide_eq_true_iff, decide_eq_false_iff_not] at hb
    (refine hx_plain rfl ?_; refine h_not rfl rfl rfl rfl ?_; (iterate 3 (refine Zm rfl rfl rfl rfl rfl ?_; (iterate 3 (refine hx_skip rfl rfl rfl rfl rfl rfl ?_)); refine Zq rfl rfl rfl rfl rfl rfl ?_)); refine Zt ?_; refine hc_condT rfl ?_; refine Zx rfl rfl rfl rfl rfl ?_; refine hc_ret ?_; refine hq_ret_then ?_)
    all_goals (refine hq_ret1 (.inr rfl) rfl rfl ⟨congrArg Value.bool ?_, rfl⟩ (fun _ h => h.emp); unfold attrB; first | (rw [eq_comm, decide_eq_false_iff_not]; omega) | (rw [decide_eq_decide]; omega))
  ·
    simp only [decide_eq_true_iff, decide_eq_false_iff_not] at hb
    (refine hx_plain rfl ?_; refine h_not rfl rfl rfl rfl ?_; refine Zm rfl rfl rfl rfl rfl ?_; refine hx_yes rfl rfl rfl ?_; refine h_fieldAddr0 rfl rfl FC.out rfl rfl ?_; refine hx_yes rfl rfl rfl ?_; refine h_load rfl rfl UC.out rfl .head rfl rfl rfl ?_; refine hx_yes rfl rfl rfl ?_; refine h_cmp rfl rfl rfl rfl rfl rfl ?_; refine Zp rfl rfl rfl rfl rfl rfl ?_; refine Zm rfl rfl rfl rfl rfl ?_; refine hx_gcaseD rfl rfl rfl (fun hc => ?_) (fun hc => ?_); (iterate 3 (refine hx_skip rfl rfl rfl rfl rfl rfl ?_)); refine Zq rfl rfl rfl rfl rfl rfl ?_; refine Zm rfl rfl rfl rfl rfl ?_; (iterate 3 (refine hx_skip rfl rfl rfl rfl rfl rfl ?_)); refine Zq rfl rfl rfl rfl rfl rfl ?_; refine Zt ?_; refine hc_condT rfl ?_; refine Zx rfl rfl rfl rfl rfl ?_; refine hc_ret ?_; refine hq_ret_then ?_; rotate_left; refine hx_yes rfl rfl rfl ?_; refine h_fieldAddr0 rfl rfl FC.out rfl rfl ?_; refine hx_yes rfl rfl rfl ?_; refine h_load rfl rfl UC.out rfl .head rfl rfl rfl ?_; refine hx_yes rfl rfl rfl ?_; refine h_cmp rfl rfl rfl rfl rfl rfl ?_; refine Zp rfl rfl rfl rfl rfl rfl ?_; refine Zm rfl rfl rfl rfl rfl ?_; refine hx_gcaseD rfl rfl rfl (fun hc => ?_) (fun hc => ?_); (iterate 3 (refine hx_skip rfl rfl rfl rfl rfl rfl ?_)); refine Zq rfl rfl rfl rfl rfl rfl ?_; refine Zt ?_; refine hc_condT rfl ?_; refine Zx rfl rfl rfl rfl rfl ?_; refine hc_ret ?_; refine hq_ret_then ?_; rotate_left; refine hx_yes rfl rfl rfl ?_; refine h_fieldAddr0 rfl rfl FC.out rfl rfl ?_; refine hx_yes rfl rfl rfl ?_; refine h_load rfl rfl UC.out rfl .head rfl rfl rfl ?_; refine hx_yes rfl rfl rfl ?_; refine h_cmp rfl rfl rfl rfl rfl rfl ?_; refine Zp rfl rfl rfl rfl rfl rfl ?_; refine Zt ?_; refine hc_condD rfl (fun hc => ?_) (fun hc => ?_); refine Zx rfl rfl rfl rfl rfl ?_; refine hc_ret ?_; refine hq_ret_then ?_; rotate_left; refine hc_skip ?_; refine hq_then ?_; refine hc_seq ?_; refine Zl rfl ?_; refine h_fieldAddr0 rfl rfl FC.out rfl rfl ?_; refine Zh rfl rfl rfl rfl rfl rfl rfl ?_; refine Zt ?_; refine hc_block ?_; refine Zl rfl ?_; refine h_cmp rfl rfl rfl rfl rfl rfl ?_; refine Zn rfl rfl rfl rfl rfl ?_; refine hc_condD rfl (fun hc => ?_) (fun hc => ?_); refine Zl rfl ?_; refine h_fieldAddr0 rfl rfl FC.out rfl rfl ?_; refine Zh rfl rfl rfl rfl rfl rfl rfl ?_; refine Zc rfl rfl rfl rfl rfl rfl rfl ?_; refine Zn rfl rfl rfl rfl rfl ?_; refine hc_ret ?_; refine hq_ret_block ?_; refine hq_ret_then ?_; rotate_left; refine Zl rfl ?_; refine h_cmp rfl rfl rfl rfl rfl rfl ?_; refine Zn rfl rfl rfl rfl rfl ?_; refine hc_condD rfl (fun hc => ?_) (fun hc => ?_); refine Zl rfl ?_; refine h_fieldAddr0 rfl rfl FC.out rfl rfl ?_; refine Zh rfl rfl rfl rfl rfl rfl rfl ?_; refine hx_plain rfl ?_; refine h_remI rfl rfl rfl (by first | omega | (dsimp only; omega)) rfl rfl ?_; refine Zc rfl rfl rfl rfl rfl rfl rfl ?_; refine Zm rfl rfl rfl rfl rfl ?_; refine hx_gcaseD rfl rfl rfl (fun hc => ?_) (fun hc => ?_); refine hx_yes rfl rfl rfl ?_; refine h_fieldAddr0 rfl rfl FC.out rfl rfl ?_; refine hx_yes rfl rfl rfl ?_; refine h_load rfl rfl UC.out rfl .head rfl rfl rfl ?_; refine hx_yes rfl rfl rfl ?_; refine h_cmp rfl rfl rfl rfl rfl rfl ?_; refine Zq rfl rfl rfl rfl rfl rfl ?_; refine Zn rfl rfl rfl rfl rfl ?_; refine hc_ret ?_; refine hq_ret_block ?_; refine hq_ret_then ?_; rotate_left; (iterate 3 (refine hx_skip rfl rfl rfl rfl rfl rfl ?_)); refine Zp rfl rfl rfl rfl rfl rfl ?_; refine Zn rfl rfl rfl rfl rfl ?_; refine hc_ret ?_; refine hq_ret_block ?_; refine hq_ret_then ?_; rotate_left; refine hc_skip ?_; refine hq_norm_block ?_; refine hq_then ?_; refine Zx rfl rfl rfl rfl rfl ?_; refine hc_ret ?_; rotate_left)
    all_goals (refine hq_ret1 (.inr rfl) rfl rfl ⟨congrArg Value.bool ?_, rfl⟩ (fun _ h => h.emp); unfold attrB; first | (rw [eq_comm, decide_eq_false_iff_not]; omega) | (rw [decide_eq_decide]; omega))
/-- An entry. -/
structure EntV where
  name : ByteArray
  id : Int
  kind : Int
def entE : Elem EntV where
  sz := 3
  pos := by decide
  enc t := [.string t.name, .int .i64 t.id, .int .i64 t.kind]
  len _ := rfl
  one q v hv := by
    simp at hv
    rcases hv with rfl | rfl | rfl <;> rfl
/-- Is the text not above that one? -/
def leS (a b : ByteArray) : Bool := Op.bytesLess a.toList b.toList || a.toList == b.toList
def entB (prev : Option EntV) (e : EntV) : Bool := isNm e.name && isIdB e.id && (decide (e.kind = 1) || decide (e.kind = 2)) && (match prev with | none => true | some p => !leS e.name p.name)
def listB : Option EntV → List EntV → Bool
  | _, [] => true
  | p, e :: l => entB p e && listB (some e) l
set_option maxHeartbeats 4000000 in
theorem fineList_reads {xs : List EntV} {w : World} {v : Value} (h : Rd entE w v xs) : Calls Tryz.prog 123 [v].toArray w (fun en w' => en = .returned (.bool (listB none xs && decide (xs.length ≤ 16))) ∧ But w w' nowhere) := by
  obtain ⟨a1, c1, rfl, l1, m1, k1⟩ := h
  unfold maxLen at m1
  refine reads_of Tryz.func123 rfl rfl (Nat.le_of_ble_eq_true rfl) ?_
  (refine Zx rfl rfl rfl rfl rfl ?_; refine hc_seq ?_; refine Zw rfl rfl rfl rfl rfl ?_; refine hx_plain rfl ?_; refine h_len_slice rfl rfl rfl UC.out rfl rfl rfl ?_; refine Zm rfl rfl rfl rfl rfl ?_; refine Zt ?_; refine hc_block ?_)
  refine hc_cut (id := 0) (Y := Unit) (fun _ => [(0, .slice a1 xs.length c1)]) (fun _ => []) (fun _ => listB none xs = true) ?_ ?_
  · refine hc_loop (X := Nat) (fun i => [(0, .slice a1 xs.length c1), (5, .slice a1 xs.length c1), (6, .int .i64 (xs.length : Int)), (7, .int .i64 (i : Int))]) (fun _ => []) (fun i => i ≤ xs.length ∧ listB none xs = listB (if i = 0 then none else xs[i - 1]?) (xs.drop i)) (fun i => xs.length - i) 0 (.cons rfl (.cons rfl (.cons rfl (.cons rfl .nil)))) ⟨Nat.zero_le _, rfl⟩ (fun _ h => h) ?_
    rintro i ⟨hi, he⟩
    by_cases hlt : i < xs.length
    · have hxs : xs ≠ [] := by
        intro e
        rw [e] at hlt
        exact absurd hlt (Nat.not_lt_zero _)
      obtain ⟨g1, o1, rfl, r1⟩ := k1.resolve_left hxs
      obtain ⟨⟨nm, id, kind⟩, hq⟩ : ∃ q, xs[i]? = some q := ⟨_, List.getElem?_eq_getElem hlt⟩
      have e1 : xs[((i : Nat) : Int).toNat]? = some ⟨nm, id, kind⟩ := hq
      have hd : xs.drop i = ⟨nm, id, kind⟩ :: xs.drop (i + 1) := by
        rw [List.drop_eq_getElem_cons hlt]
        congr 1
        exact (List.getElem?_eq_some_iff.1 hq).2
      rw [hd] at he
      obtain ⟨b1, hb1⟩ : ∃ b, isNm nm = b := ⟨_, rfl⟩
      obtain ⟨b2, hb2⟩ : ∃ b, isIdB id = b := ⟨_, rfl⟩
      (refine Zl rfl ?_; refine h_cmp rfl rfl rfl rfl rfl rfl ?_; refine Zt ?_; refine hc_seq ?_; refine hc_condDT rfl (by first | omega | (dsimp only; omega)) ?_; refine hc_skip ?_; refine hq_then ?_; refine hc_seq ?_; refine hc_block ?_; refine Zw rfl rfl rfl rfl rfl ?_; refine hx_plain rfl ?_; refine h_indexAddr rfl rfl rfl UC.out IC.size (by first | omega | (dsimp only; omega)) (by first | omega | (dsimp only; omega)) rfl rfl ?_; refine hx_plain rfl ?_; refine h_rdLoadN rfl r1 rfl UC.out rfl IC.size (by with_reducible assumption) rfl rfl rfl ?_; refine hx_plain rfl ?_; (refine h_alloc rfl rfl IC.zero rfl rfl rfl (fun _ => ?_)); refine Za rfl rfl rfl rfl rfl ?_; refine hx_plain rfl ?_; refine h_store rfl rfl rfl rfl rfl rfl IC.size .head rfl rfl (Nat.le_of_ble_eq_true rfl) (List.all_eq_true.1 rfl) ?_; refine Zt ?_; refine hc_seq ?_; refine hc_draw0 (by kernel_rfl) (by kernel_rfl) ?_; refine Zf rfl rfl rfl rfl rfl ?_; refine Zh rfl rfl rfl rfl rfl rfl rfl ?_; refine hx_plain rfl ?_)
      refine h_callRd rfl rfl rfl rfl rfl rfl EC.out (fun w' h => isName_reads nm w') ?_
      rw [hb1]
      cases b1
      · (refine hx_plain rfl ?_; refine h_not rfl rfl rfl rfl ?_; refine Zm rfl rfl rfl rfl rfl ?_; (iterate 4 (refine hx_skip rfl rfl rfl rfl rfl rfl ?_)); refine Zq rfl rfl rfl rfl rfl rfl ?_; refine Zm rfl rfl rfl rfl rfl ?_; (iterate 4 (refine hx_skip rfl rfl rfl rfl rfl rfl ?_)); (iterate 3 (refine hx_skipU rfl rfl rfl rfl rfl ?_)); refine hx_skip rfl rfl rfl rfl rfl rfl ?_; refine Zq rfl rfl rfl rfl rfl rfl ?_; refine Zm rfl rfl rfl rfl rfl ?_; (iterate 3 (refine hx_skip rfl rfl rfl rfl rfl rfl ?_)); (iterate 9 (refine hx_skipU rfl rfl rfl rfl rfl ?_)); refine hx_skip rfl rfl rfl rfl rfl rfl ?_; refine Zq rfl rfl rfl rfl rfl rfl ?_; refine Zt ?_; refine hc_condT rfl ?_; refine Zx rfl rfl rfl rfl rfl ?_; refine hc_ret ?_; refine hq_ret_block ?_; (iterate 2 (refine hq_ret_then ?_)); refine hq_cut_ret ?_; refine hq_ret_block ?_; refine hq_ret_then ?_)
        exact hq_ret1 (.inr rfl) rfl rfl ⟨congrArg Value.bool (by rw [he]; simp [listB, entB, hb1]), rfl⟩ (fun _ h => h.emp)
      (refine hx_plain rfl ?_; refine h_not rfl rfl rfl rfl ?_; refine Zm rfl rfl rfl rfl rfl ?_; refine hx_yes rfl rfl rfl ?_; refine h_fieldAddr0 rfl rfl FC.out rfl rfl ?_; refine hx_yes rfl rfl rfl ?_; refine h_load rfl rfl UC.out rfl .head rfl rfl rfl ?_; refine hx_yes rfl rfl rfl ?_)
      refine h_callR rfl rfl rfl rfl rfl rfl EC.out ((isId_spec id).reads _) ?_
      rw [hb2]
      cases b2
      · (refine hx_yes rfl rfl rfl ?_; refine h_not rfl rfl rfl rfl ?_; refine Zp rfl rfl rfl rfl rfl rfl ?_; refine Zm rfl rfl rfl rfl rfl ?_; (iterate 4 (refine hx_skip rfl rfl rfl rfl rfl rfl ?_)); (iterate 3 (refine hx_skipU rfl rfl rfl rfl rfl ?_)); refine hx_skip rfl rfl rfl rfl rfl rfl ?_; refine Zq rfl rfl rfl rfl rfl rfl ?_; refine Zm rfl rfl rfl rfl rfl ?_; (iterate 3 (refine hx_skip rfl rfl rfl rfl rfl rfl ?_)); (iterate 9 (refine hx_skipU rfl rfl rfl rfl rfl ?_)); refine hx_skip rfl rfl rfl rfl rfl rfl ?_; refine Zq rfl rfl rfl rfl rfl rfl ?_; refine Zt ?_; refine hc_condT rfl ?_; refine Zx rfl rfl rfl rfl rfl ?_; refine hc_ret ?_; refine hq_ret_block ?_; (iterate 2 (refine hq_ret_then ?_)); refine hq_cut_ret ?_; refine hq_ret_block ?_; refine hq_ret_then ?_)
        exact hq_ret1 (.inr rfl) rfl rfl ⟨congrArg Value.bool (by rw [he]; simp [listB, entB, hb1, hb2]), rfl⟩ (fun _ h => h.emp)
      by_cases hk : kind = 1 ∨ kind = 2
      · have hkb : (decide (kind = 1) || decide (kind = 2)) = true := by simpa using hk
        by_cases hi0 : i = 0
        · subst hi0
          rcases hk with rfl | rfl
          ·
            (refine hx_yes rfl rfl rfl ?_; refine h_not rfl rfl rfl rfl ?_; refine Zp rfl rfl rfl rfl rfl rfl ?_; refine Zm rfl rfl rfl rfl rfl ?_; refine hx_yes rfl rfl rfl ?_; refine h_fieldAddr0 rfl rfl FC.out rfl rfl ?_; refine hx_yes rfl rfl rfl ?_; refine h_load rfl rfl UC.out rfl .head rfl rfl rfl ?_; refine hx_yes rfl rfl rfl ?_; refine h_cmp rfl rfl rfl rfl rfl rfl ?_; refine hx_yes rfl rfl rfl ?_; refine h_move rfl rfl rfl rfl ?_; (iterate 3 (refine hx_skip rfl rfl rfl rfl rfl rfl ?_)); refine hx_yes rfl rfl rfl ?_; refine h_pickF rfl rfl rfl rfl rfl ?_; refine Zp rfl rfl rfl rfl rfl rfl ?_; refine Zm rfl rfl rfl rfl rfl ?_; refine hx_yes rfl rfl rfl ?_; refine h_move rfl rfl rfl rfl ?_; refine hx_yes rfl rfl rfl ?_; refine h_cmp rfl rfl rfl rfl rfl rfl ?_; refine hx_yes rfl rfl rfl ?_; refine h_move rfl rfl rfl rfl ?_; (iterate 9 (refine hx_skip rfl rfl rfl rfl rfl rfl ?_)); refine hx_yes rfl rfl rfl ?_; refine h_pickF rfl rfl rfl rfl rfl ?_; refine Zp rfl rfl rfl rfl rfl rfl ?_; refine Zt ?_; refine hc_condF rfl ?_; refine hc_skip ?_; refine hq_norm_block ?_; refine hq_then ?_; refine hc_lex ?_; refine hx_plain rfl ?_; refine h_arithI rfl rfl rfl rfl (by first | omega | (dsimp only; omega)) rfl rfl ?_; refine Zm rfl rfl rfl rfl rfl ?_; refine hx_nil ?_)
            refine hq_round 1 (by omega) ⟨by omega, ?_⟩ (.cons rfl (.cons rfl (.cons rfl (.cons rfl .nil)))) (fun _ h => h.emp)
            rw [he]
            have e0 : xs[0]? = some _ := hq
            simp [listB, entB, hb1, hb2, e0]
          ·
            (refine hx_yes rfl rfl rfl ?_; refine h_not rfl rfl rfl rfl ?_; refine Zp rfl rfl rfl rfl rfl rfl ?_; refine Zm rfl rfl rfl rfl rfl ?_; refine hx_yes rfl rfl rfl ?_; refine h_fieldAddr0 rfl rfl FC.out rfl rfl ?_; refine hx_yes rfl rfl rfl ?_; refine h_load rfl rfl UC.out rfl .head rfl rfl rfl ?_; refine hx_yes rfl rfl rfl ?_; refine h_cmp rfl rfl rfl rfl rfl rfl ?_; refine hx_yes rfl rfl rfl ?_; refine h_move rfl rfl rfl rfl ?_; refine hx_yes rfl rfl rfl ?_; refine h_fieldAddr0 rfl rfl FC.out rfl rfl ?_; refine hx_yes rfl rfl rfl ?_; refine h_load rfl rfl UC.out rfl .head rfl rfl rfl ?_; refine hx_yes rfl rfl rfl ?_; refine h_cmp rfl rfl rfl rfl rfl rfl ?_; refine hx_yes rfl rfl rfl ?_; refine h_pickT rfl rfl rfl rfl rfl ?_; refine Zp rfl rfl rfl rfl rfl rfl ?_; refine Zm rfl rfl rfl rfl rfl ?_; refine hx_yes rfl rfl rfl ?_; refine h_move rfl rfl rfl rfl ?_; refine hx_yes rfl rfl rfl ?_; refine h_cmp rfl rfl rfl rfl rfl rfl ?_; refine hx_yes rfl rfl rfl ?_; refine h_move rfl rfl rfl rfl ?_; (iterate 9 (refine hx_skip rfl rfl rfl rfl rfl rfl ?_)); refine hx_yes rfl rfl rfl ?_; refine h_pickF rfl rfl rfl rfl rfl ?_; refine Zp rfl rfl rfl rfl rfl rfl ?_; refine Zt ?_; refine hc_condF rfl ?_; refine hc_skip ?_; refine hq_norm_block ?_; refine hq_then ?_; refine hc_lex ?_; refine hx_plain rfl ?_; refine h_arithI rfl rfl rfl rfl (by first | omega | (dsimp only; omega)) rfl rfl ?_; refine Zm rfl rfl rfl rfl rfl ?_; refine hx_nil ?_)
            refine hq_round 1 (by omega) ⟨by omega, ?_⟩ (.cons rfl (.cons rfl (.cons rfl (.cons rfl .nil)))) (fun _ h => h.emp)
            rw [he]
            have e0 : xs[0]? = some _ := hq
            simp [listB, entB, hb1, hb2, e0]
        · obtain ⟨pv, hp⟩ : ∃ q, xs[i - 1]? = some q := ⟨_, List.getElem?_eq_getElem (by omega)⟩
          obtain ⟨pn, pid, pk⟩ := pv
          have e2 : xs[(((i : Nat) : Int) - 1).toNat]? = some ⟨pn, pid, pk⟩ := by rw [← hp]; congr 1; omega
          rw [if_neg hi0, hp] at he
          rcases hk with rfl | rfl
          ·
            (refine hx_yes rfl rfl rfl ?_; refine h_not rfl rfl rfl rfl ?_; refine Zp rfl rfl rfl rfl rfl rfl ?_; refine Zm rfl rfl rfl rfl rfl ?_; refine hx_yes rfl rfl rfl ?_; refine h_fieldAddr0 rfl rfl FC.out rfl rfl ?_; refine hx_yes rfl rfl rfl ?_; refine h_load rfl rfl UC.out rfl .head rfl rfl rfl ?_; refine hx_yes rfl rfl rfl ?_; refine h_cmp rfl rfl rfl rfl rfl rfl ?_; refine hx_yes rfl rfl rfl ?_; refine h_move rfl rfl rfl rfl ?_; (iterate 3 (refine hx_skip rfl rfl rfl rfl rfl rfl ?_)); refine hx_yes rfl rfl rfl ?_; refine h_pickF rfl rfl rfl rfl rfl ?_; refine Zp rfl rfl rfl rfl rfl rfl ?_; refine Zm rfl rfl rfl rfl rfl ?_; refine hx_yes rfl rfl rfl ?_; refine h_move rfl rfl rfl rfl ?_; refine hx_yes rfl rfl rfl ?_; refine h_cmp rfl rfl rfl rfl rfl rfl ?_; refine hx_yes rfl rfl rfl ?_; refine h_move rfl rfl rfl rfl ?_; refine hx_gT rfl rfl rfl (by first | omega | (dsimp only; omega)) ?_; refine hx_yes rfl rfl rfl ?_; refine h_fieldAddr0 rfl rfl FC.out rfl rfl ?_; refine hx_yes rfl rfl rfl ?_; refine h_load rfl rfl UC.out rfl .head rfl rfl rfl ?_; (iterate 2 (refine hx_yes rfl rfl rfl ?_; refine h_move rfl rfl rfl rfl ?_)); refine hx_yes rfl rfl rfl ?_; refine h_arithI rfl rfl rfl rfl (by first | omega | (dsimp only; omega)) rfl rfl ?_; refine hx_yes rfl rfl rfl ?_; refine h_indexAddr rfl rfl rfl UC.out IC.size (by first | omega | (dsimp only; omega)) (by first | omega | (dsimp only; omega)) rfl rfl ?_; refine hx_yes rfl rfl rfl ?_; refine h_fieldAddr rfl rfl FC.out rfl rfl ?_; refine hx_yes rfl rfl rfl ?_; refine h_rdLoad rfl r1 rfl UC.out rfl (by with_reducible assumption) rfl rfl rfl ?_; refine hx_yes rfl rfl rfl ?_; refine h_cmpS rfl rfl rfl rfl rfl rfl ?_; refine hx_yes rfl rfl rfl ?_; refine h_pickT rfl rfl rfl rfl rfl ?_; refine Zp rfl rfl rfl rfl rfl rfl ?_; refine Zt ?_; refine hc_cond rfl (fun hc => ?_) (fun hc => ?_); refine Zx rfl rfl rfl rfl rfl ?_; refine hc_ret ?_; refine hq_ret_block ?_; (iterate 2 (refine hq_ret_then ?_)); refine hq_cut_ret ?_; refine hq_ret_block ?_; refine hq_ret_then ?_; rotate_left; refine hc_skip ?_; refine hq_norm_block ?_; refine hq_then ?_; refine hc_lex ?_; refine hx_plain rfl ?_; refine h_arithI rfl rfl rfl rfl (by first | omega | (dsimp only; omega)) rfl rfl ?_; refine Zm rfl rfl rfl rfl rfl ?_; refine hx_nil ?_; rotate_left)
            · exact hq_ret1 (.inr rfl) rfl rfl ⟨congrArg Value.bool (by rw [he]; simp [listB, entB, hb1, hb2, leS, hc]), rfl⟩ (fun _ h => h.emp)
            refine hq_round (i + 1) (by omega) ⟨by omega, ?_⟩ (.cons rfl (.cons rfl (.cons rfl (.cons rfl .nil)))) (fun _ h => h.emp)
            rw [he, if_neg (by omega), Nat.add_sub_cancel, hq]
            simp [listB, entB, hb1, hb2, leS, hc]
          ·
            (refine hx_yes rfl rfl rfl ?_; refine h_not rfl rfl rfl rfl ?_; refine Zp rfl rfl rfl rfl rfl rfl ?_; refine Zm rfl rfl rfl rfl rfl ?_; refine hx_yes rfl rfl rfl ?_; refine h_fieldAddr0 rfl rfl FC.out rfl rfl ?_; refine hx_yes rfl rfl rfl ?_; refine h_load rfl rfl UC.out rfl .head rfl rfl rfl ?_; refine hx_yes rfl rfl rfl ?_; refine h_cmp rfl rfl rfl rfl rfl rfl ?_; refine hx_yes rfl rfl rfl ?_; refine h_move rfl rfl rfl rfl ?_; refine hx_yes rfl rfl rfl ?_; refine h_fieldAddr0 rfl rfl FC.out rfl rfl ?_; refine hx_yes rfl rfl rfl ?_; refine h_load rfl rfl UC.out rfl .head rfl rfl rfl ?_; refine hx_yes rfl rfl rfl ?_; refine h_cmp rfl rfl rfl rfl rfl rfl ?_; refine hx_yes rfl rfl rfl ?_; refine h_pickT rfl rfl rfl rfl rfl ?_; refine Zp rfl rfl rfl rfl rfl rfl ?_; refine Zm rfl rfl rfl rfl rfl ?_; refine hx_yes rfl rfl rfl ?_; refine h_move rfl rfl rfl rfl ?_; refine hx_yes rfl rfl rfl ?_; refine h_cmp rfl rfl rfl rfl rfl rfl ?_; refine hx_yes rfl rfl rfl ?_; refine h_move rfl rfl rfl rfl ?_; refine hx_gT rfl rfl rfl (by first | omega | (dsimp only; omega)) ?_; refine hx_yes rfl rfl rfl ?_; refine h_fieldAddr0 rfl rfl FC.out rfl rfl ?_; refine hx_yes rfl rfl rfl ?_; refine h_load rfl rfl UC.out rfl .head rfl rfl rfl ?_; (iterate 2 (refine hx_yes rfl rfl rfl ?_; refine h_move rfl rfl rfl rfl ?_)); refine hx_yes rfl rfl rfl ?_; refine h_arithI rfl rfl rfl rfl (by first | omega | (dsimp only; omega)) rfl rfl ?_; refine hx_yes rfl rfl rfl ?_; refine h_indexAddr rfl rfl rfl UC.out IC.size (by first | omega | (dsimp only; omega)) (by first | omega | (dsimp only; omega)) rfl rfl ?_; refine hx_yes rfl rfl rfl ?_; refine h_fieldAddr rfl rfl FC.out rfl rfl ?_; refine hx_yes rfl rfl rfl ?_; refine h_rdLoad rfl r1 rfl UC.out rfl (by with_reducible assumption) rfl rfl rfl ?_; refine hx_yes rfl rfl rfl ?_; refine h_cmpS rfl rfl rfl rfl rfl rfl ?_; refine hx_yes rfl rfl rfl ?_; refine h_pickT rfl rfl rfl rfl rfl ?_; refine Zp rfl rfl rfl rfl rfl rfl ?_; refine Zt ?_; refine hc_cond rfl (fun hc => ?_) (fun hc => ?_); refine Zx rfl rfl rfl rfl rfl ?_; refine hc_ret ?_; refine hq_ret_block ?_; (iterate 2 (refine hq_ret_then ?_)); refine hq_cut_ret ?_; refine hq_ret_block ?_; refine hq_ret_then ?_; rotate_left; refine hc_skip ?_; refine hq_norm_block ?_; refine hq_then ?_; refine hc_lex ?_; refine hx_plain rfl ?_; refine h_arithI rfl rfl rfl rfl (by first | omega | (dsimp only; omega)) rfl rfl ?_; refine Zm rfl rfl rfl rfl rfl ?_; refine hx_nil ?_; rotate_left)
            · exact hq_ret1 (.inr rfl) rfl rfl ⟨congrArg Value.bool (by rw [he]; simp [listB, entB, hb1, hb2, leS, hc]), rfl⟩ (fun _ h => h.emp)
            refine hq_round (i + 1) (by omega) ⟨by omega, ?_⟩ (.cons rfl (.cons rfl (.cons rfl (.cons rfl .nil)))) (fun _ h => h.emp)
            rw [he, if_neg (by omega), Nat.add_sub_cancel, hq]
            simp [listB, entB, hb1, hb2, leS, hc]
      · have hkb : (decide (kind = 1) || decide (kind = 2)) = false := by simpa using hk
        (refine hx_yes rfl rfl rfl ?_; refine h_not rfl rfl rfl rfl ?_; refine Zp rfl rfl rfl rfl rfl rfl ?_; refine Zm rfl rfl rfl rfl rfl ?_; refine hx_yes rfl rfl rfl ?_; refine h_fieldAddr0 rfl rfl FC.out rfl rfl ?_; refine hx_yes rfl rfl rfl ?_; refine h_load rfl rfl UC.out rfl .head rfl rfl rfl ?_; refine hx_yes rfl rfl rfl ?_; refine h_cmp rfl rfl rfl rfl rfl rfl ?_; refine hx_yes rfl rfl rfl ?_; refine h_move rfl rfl rfl rfl ?_; refine hx_gT rfl rfl rfl (by first | omega | (dsimp only; omega)) ?_; refine hx_yes rfl rfl rfl ?_; refine h_fieldAddr0 rfl rfl FC.out rfl rfl ?_; refine hx_yes rfl rfl rfl ?_; refine h_load rfl rfl UC.out rfl .head rfl rfl rfl ?_; refine hx_yes rfl rfl rfl ?_; refine h_cmp rfl rfl rfl rfl rfl rfl ?_; refine hx_yes rfl rfl rfl ?_; refine h_pickT rfl rfl rfl rfl rfl ?_; refine Zp rfl rfl rfl rfl rfl rfl ?_; refine Zm rfl rfl rfl rfl rfl ?_; refine hx_gT rfl rfl rfl (by first | omega | (dsimp only; omega)) ?_; (iterate 3 (refine hx_skip rfl rfl rfl rfl rfl rfl ?_)); (iterate 9 (refine hx_skipU rfl rfl rfl rfl rfl ?_)); refine hx_skip rfl rfl rfl rfl rfl rfl ?_; refine Zq rfl rfl rfl rfl rfl rfl ?_; refine Zt ?_; refine hc_condT rfl ?_; refine Zx rfl rfl rfl rfl rfl ?_; refine hc_ret ?_; refine hq_ret_block ?_; (iterate 2 (refine hq_ret_then ?_)); refine hq_cut_ret ?_; refine hq_ret_block ?_; refine hq_ret_then ?_)
        exact hq_ret1 (.inr rfl) rfl rfl ⟨congrArg Value.bool (by rw [he]; simp [listB, entB, hb1, hb2, hkb]), rfl⟩ (fun _ h => h.emp)
    · (refine Zl rfl ?_; refine h_cmp rfl rfl rfl rfl rfl rfl ?_; refine Zt ?_; refine hc_seq ?_; refine hc_condDF rfl (by first | omega | (dsimp only; omega)) ?_; refine hc_exit ?_; (iterate 2 (refine hq_exit_then ?_)))
      refine hq_cut () ?_ (.cons rfl .nil) (fun _ h => h)
      rw [List.drop_eq_nil_of_le (by omega)] at he
      rw [he]
      split <;> simp [listB]
  · rintro ⟨⟩ he
    (refine hq_exit_block ?_; refine hq_then ?_; refine Zw rfl rfl rfl rfl rfl ?_; refine hx_plain rfl ?_; refine h_len_slice rfl rfl rfl UC.out rfl rfl rfl ?_; refine Zc rfl rfl rfl rfl rfl rfl rfl ?_; refine Zn rfl rfl rfl rfl rfl ?_; refine hc_ret ?_)
    exact hq_ret1 (.inr rfl) rfl rfl ⟨congrArg Value.bool (by rw [he, Bool.true_and, decide_eq_decide]; omega), rfl⟩ (fun _ h => h.emp)
end Go.Proofs.YtfolhmlldoepfaaGreatDoor
namespace Go.Proofs.YtfolhmlldoepfaaGreatDoor
open Go Go.Proofs Go.RowKit
set_option maxRecDepth 4000
inductive RqF where
  | id
  | off
  | len (l : Int)
  | path
  | name (d : Bool)
  | id2
  | name2
  | data
abbrev ptrV (p o : Nat) : Value := .pointer (some ⟨p, o, none⟩)
abbrev fnV (f : Nat) : Value := .func (.func f) #[] #[]
def rqV (p : Nat) : RqF → Value
  | .id => .iface 128 (.agg #[ptrV p 5])
  | .off => .iface 130 (.agg #[ptrV p 7, .int .i64 0, .int .i64 69632])
  | .len l => .iface 130 (.agg #[ptrV p 8, .int .i64 1, .int .i64 l])
  | .path => .iface 133 (.agg #[ptrV p 9, .int .i64 384, fnV 91])
  | .name true => .iface 133 (.agg #[ptrV p 10, .int .i64 23, fnV 90])
  | .name false => .iface 133 (.agg #[ptrV p 10, .int .i64 23, fnV 89])
  | .id2 => .iface 128 (.agg #[ptrV p 6])
  | .name2 => .iface 133 (.agg #[ptrV p 11, .int .i64 23, fnV 89])
  | .data => .iface 136 (.agg #[ptrV p 12, .int .i64 1])
def RqF.ok (r : ReqV) : RqF → Bool
  | .id => isIdB r.id
  | .off => decide (0 ≤ r.off) && decide (r.off ≤ 69632)
  | .len l => decide (1 ≤ r.len) && decide (r.len ≤ l)
  | .path => isPth r.path
  | .name true => isNmN r.name
  | .name false => isNm r.name
  | .id2 => isIdB r.id2
  | .name2 => isNm r.name2
  | .data => decide (1 ≤ r.dv.len) && decide (r.dv.len ≤ 1024)
def RqF.clr (r : ReqV) : RqF → ReqV
  | .id => { r with id := 0 }
  | .off => { r with off := 0 }
  | .len _ => { r with len := 0 }
  | .path => { r with path := ⟨#[]⟩ }
  | .name _ => { r with name := ⟨#[]⟩ }
  | .id2 => { r with id2 := 0 }
  | .name2 => { r with name2 := ⟨#[]⟩ }
  | .data => { r with dv := ⟨none, 0, 0⟩ }
abbrev rqB (p : Nat) (r : ReqV) : Asn := Blk p (.cells r.cs 24 (0, 0))
set_option maxHeartbeats 4000000 in
theorem fineQ_spec (p : Nat) (r : ReqV) (f : RqF) : Spec Tryz.prog 88 [rqV p f] [rqB p r] (fun u M => u = .bool (f.ok r) ∧ M = [rqB p r]) := by
  obtain ⟨client, seq, ack, epoch, op, id, id2, off, len, path, name, name2, ⟨da, dn, dc⟩⟩ := r
  refine spec_of Tryz.func88 rfl rfl (Nat.le_of_ble_eq_true rfl) (fun w F => ?_)
  unfold rqB
  dsimp only [ReqV.cs, SlV.v]
  cases f with
  | id =>
    dsimp only [rqV, RqF.ok]
    (refine Zx rfl rfl rfl rfl rfl ?_; refine hc_seq ?_; refine Zw rfl rfl rfl rfl rfl ?_; refine Zt ?_; refine hc_block ?_; refine Zl rfl ?_; refine h_taNo rfl rfl rfl rfl UC.out rfl IC.zero rfl rfl ?_; (iterate 2 (refine hx_plain rfl ?_; refine h_extract rfl rfl rfl rfl rfl ?_)); refine Zt ?_; refine hc_condF rfl ?_; refine Zl rfl ?_; refine h_taYes rfl rfl rfl UC.out rfl rfl rfl ?_; (iterate 2 (refine hx_plain rfl ?_; refine h_extract rfl rfl rfl rfl rfl ?_)); refine Zt ?_; refine hc_condT rfl ?_; refine Zl rfl ?_; (refine h_alloc rfl rfl IC.zero rfl rfl rfl (fun _ => ?_)); refine hx_plain rfl ?_; refine h_store rfl rfl rfl rfl rfl rfl IC.size .head rfl rfl (Nat.le_of_ble_eq_true rfl) (List.all_eq_true.1 rfl) ?_; refine Zt ?_; refine Zl rfl ?_; refine h_fieldAddr0 rfl rfl FC.out rfl rfl ?_; refine Zh rfl rfl rfl rfl rfl rfl rfl ?_; refine hx_plain rfl ?_; refine h_nilCheck rfl rfl rfl rfl ?_; refine hx_plain rfl ?_; refine h_load rfl rfl UC.out rfl (.tail .head) rfl rfl rfl ?_; refine hx_plain rfl ?_)
    refine h_callR rfl rfl rfl rfl rfl rfl EC.out ((isId_spec _).reads _) ?_
    (refine Zn rfl rfl rfl rfl rfl ?_; refine hc_ret ?_; refine hq_ret_block ?_; refine hq_ret_then ?_)
    exact hq_ret1 (.inr rfl) rfl rfl ⟨rfl, rfl⟩ (fun _ h => h.drop)
  | off =>
    dsimp only [rqV, RqF.ok]
    (refine Zx rfl rfl rfl rfl rfl ?_; refine hc_seq ?_; refine Zw rfl rfl rfl rfl rfl ?_; refine Zt ?_; refine hc_block ?_; refine Zl rfl ?_; refine h_taYes rfl rfl rfl UC.out rfl rfl rfl ?_; (iterate 2 (refine hx_plain rfl ?_; refine h_extract rfl rfl rfl rfl rfl ?_)); refine Zt ?_; refine hc_condT rfl ?_; refine Zl rfl ?_; (refine h_alloc rfl rfl IC.zero rfl rfl rfl (fun _ => ?_)); refine hx_plain rfl ?_; refine h_store rfl rfl rfl rfl rfl rfl IC.size .head rfl rfl (Nat.le_of_ble_eq_true rfl) (List.all_eq_true.1 rfl) ?_; refine Zt ?_; refine hc_seq ?_; refine hc_draw0 (by kernel_rfl) (by kernel_rfl) ?_; refine Zf rfl rfl rfl rfl rfl ?_; refine Zh rfl rfl rfl rfl rfl rfl rfl ?_; refine hx_plain rfl ?_; refine h_nilCheck rfl rfl rfl rfl ?_; refine hx_plain rfl ?_; refine h_load rfl rfl UC.out rfl (.tail .head) rfl rfl rfl ?_; refine Zf rfl rfl rfl rfl rfl ?_; refine Zh rfl rfl rfl rfl rfl rfl rfl ?_; refine Zc rfl rfl rfl rfl rfl rfl rfl ?_; refine Zm rfl rfl rfl rfl rfl ?_; refine hx_gcaseD rfl rfl rfl (fun hc => ?_) (fun hc => ?_); refine hx_yes rfl rfl rfl ?_; refine h_fieldAddr0 rfl rfl FC.out rfl rfl ?_; refine hx_yes rfl rfl rfl ?_; refine h_load rfl rfl UC.out rfl .head rfl rfl rfl ?_; refine hx_yes rfl rfl rfl ?_; refine h_nilCheck rfl rfl rfl rfl ?_; refine hx_yes rfl rfl rfl ?_; refine h_load rfl rfl UC.out rfl (.tail .head) rfl rfl rfl ?_; refine hx_yes rfl rfl rfl ?_; refine h_fieldAddr0 rfl rfl FC.out rfl rfl ?_; refine hx_yes rfl rfl rfl ?_; refine h_load rfl rfl UC.out rfl .head rfl rfl rfl ?_; refine hx_yes rfl rfl rfl ?_; refine h_cmp rfl rfl rfl rfl rfl rfl ?_; refine Zq rfl rfl rfl rfl rfl rfl ?_; refine Zn rfl rfl rfl rfl rfl ?_; refine hc_ret ?_; refine hq_ret_block ?_; refine hq_ret_then ?_; rotate_left; (iterate 7 (refine hx_skip rfl rfl rfl rfl rfl rfl ?_)); refine Zp rfl rfl rfl rfl rfl rfl ?_; refine Zn rfl rfl rfl rfl rfl ?_; refine hc_ret ?_; refine hq_ret_block ?_; refine hq_ret_then ?_; rotate_left)
    all_goals (refine hq_ret1 (.inr rfl) rfl rfl ⟨congrArg Value.bool ?_, rfl⟩ (fun _ h => h.drop))
    all_goals first | (rw [eq_comm, Bool.and_eq_false_iff, decide_eq_false_iff_not, decide_eq_false_iff_not]; omega) | (rw [← Bool.decide_and, decide_eq_decide]; omega)
  | len l =>
    dsimp only [rqV, RqF.ok]
    (refine Zx rfl rfl rfl rfl rfl ?_; refine hc_seq ?_; refine Zw rfl rfl rfl rfl rfl ?_; refine Zt ?_; refine hc_block ?_; refine Zl rfl ?_; refine h_taYes rfl rfl rfl UC.out rfl rfl rfl ?_; (iterate 2 (refine hx_plain rfl ?_; refine h_extract rfl rfl rfl rfl rfl ?_)); refine Zt ?_; refine hc_condT rfl ?_; refine Zl rfl ?_; (refine h_alloc rfl rfl IC.zero rfl rfl rfl (fun _ => ?_)); refine hx_plain rfl ?_; refine h_store rfl rfl rfl rfl rfl rfl IC.size .head rfl rfl (Nat.le_of_ble_eq_true rfl) (List.all_eq_true.1 rfl) ?_; refine Zt ?_; refine hc_seq ?_; refine hc_draw0 (by kernel_rfl) (by kernel_rfl) ?_; refine Zf rfl rfl rfl rfl rfl ?_; refine Zh rfl rfl rfl rfl rfl rfl rfl ?_; refine hx_plain rfl ?_; refine h_nilCheck rfl rfl rfl rfl ?_; refine hx_plain rfl ?_; refine h_load rfl rfl UC.out rfl (.tail .head) rfl rfl rfl ?_; refine Zf rfl rfl rfl rfl rfl ?_; refine Zh rfl rfl rfl rfl rfl rfl rfl ?_; refine Zc rfl rfl rfl rfl rfl rfl rfl ?_; refine Zm rfl rfl rfl rfl rfl ?_; refine hx_gcaseD rfl rfl rfl (fun hc => ?_) (fun hc => ?_); refine hx_yes rfl rfl rfl ?_; refine h_fieldAddr0 rfl rfl FC.out rfl rfl ?_; refine hx_yes rfl rfl rfl ?_; refine h_load rfl rfl UC.out rfl .head rfl rfl rfl ?_; refine hx_yes rfl rfl rfl ?_; refine h_nilCheck rfl rfl rfl rfl ?_; refine hx_yes rfl rfl rfl ?_; refine h_load rfl rfl UC.out rfl (.tail .head) rfl rfl rfl ?_; refine hx_yes rfl rfl rfl ?_; refine h_fieldAddr0 rfl rfl FC.out rfl rfl ?_; refine hx_yes rfl rfl rfl ?_; refine h_load rfl rfl UC.out rfl .head rfl rfl rfl ?_; refine hx_yes rfl rfl rfl ?_; refine h_cmp rfl rfl rfl rfl rfl rfl ?_; refine Zq rfl rfl rfl rfl rfl rfl ?_; refine Zn rfl rfl rfl rfl rfl ?_; refine hc_ret ?_; refine hq_ret_block ?_; refine hq_ret_then ?_; rotate_left; (iterate 7 (refine hx_skip rfl rfl rfl rfl rfl rfl ?_)); refine Zp rfl rfl rfl rfl rfl rfl ?_; refine Zn rfl rfl rfl rfl rfl ?_; refine hc_ret ?_; refine hq_ret_block ?_; refine hq_ret_then ?_; rotate_left)
    all_goals (refine hq_ret1 (.inr rfl) rfl rfl ⟨congrArg Value.bool ?_, rfl⟩ (fun _ h => h.drop))
    all_goals first | (rw [eq_comm, Bool.and_eq_false_iff, decide_eq_false_iff_not, decide_eq_false_iff_not]; omega) | (rw [← Bool.decide_and, decide_eq_decide]; omega)
  | path =>
    dsimp only [rqV, RqF.ok]
    (refine Zx rfl rfl rfl rfl rfl ?_; refine hc_seq ?_; refine Zw rfl rfl rfl rfl rfl ?_; refine Zt ?_; refine hc_block ?_; (iterate 2 (refine Zl rfl ?_; refine h_taNo rfl rfl rfl rfl UC.out rfl IC.zero rfl rfl ?_; (iterate 2 (refine hx_plain rfl ?_; refine h_extract rfl rfl rfl rfl rfl ?_)); refine Zt ?_; refine hc_condF rfl ?_)); refine Zl rfl ?_; refine h_taYes rfl rfl rfl UC.out rfl rfl rfl ?_; (iterate 2 (refine hx_plain rfl ?_; refine h_extract rfl rfl rfl rfl rfl ?_)); refine Zt ?_; refine hc_condT rfl ?_; refine Zl rfl ?_; (refine h_alloc rfl rfl IC.zero rfl rfl rfl (fun _ => ?_)); refine hx_plain rfl ?_; refine h_store rfl rfl rfl rfl rfl rfl IC.size .head rfl rfl (Nat.le_of_ble_eq_true rfl) (List.all_eq_true.1 rfl) ?_; refine Zt ?_; refine hc_seq ?_; refine hc_draw0 (by kernel_rfl) (by kernel_rfl) ?_; (iterate 2 (refine Zf rfl rfl rfl rfl rfl ?_; refine Zh rfl rfl rfl rfl rfl rfl rfl ?_)); refine hx_plain rfl ?_; refine h_nilCheck rfl rfl rfl rfl ?_; refine hx_plain rfl ?_; refine h_load rfl rfl UC.out rfl (.tail .head) rfl rfl rfl ?_; refine hx_plain rfl ?_)
    refine h_callRd rfl rfl rfl rfl rfl rfl EC.out (fun w' h => isPath_reads _ w') ?_
    (refine Zn rfl rfl rfl rfl rfl ?_; refine hc_ret ?_; refine hq_ret_block ?_; refine hq_ret_then ?_)
    exact hq_ret1 (.inr rfl) rfl rfl ⟨rfl, rfl⟩ (fun _ h => h.drop)
  | name d =>
    cases d with
    | false =>
      dsimp only [rqV, RqF.ok]
      (refine Zx rfl rfl rfl rfl rfl ?_; refine hc_seq ?_; refine Zw rfl rfl rfl rfl rfl ?_; refine Zt ?_; refine hc_block ?_; (iterate 2 (refine Zl rfl ?_; refine h_taNo rfl rfl rfl rfl UC.out rfl IC.zero rfl rfl ?_; (iterate 2 (refine hx_plain rfl ?_; refine h_extract rfl rfl rfl rfl rfl ?_)); refine Zt ?_; refine hc_condF rfl ?_)); refine Zl rfl ?_; refine h_taYes rfl rfl rfl UC.out rfl rfl rfl ?_; (iterate 2 (refine hx_plain rfl ?_; refine h_extract rfl rfl rfl rfl rfl ?_)); refine Zt ?_; refine hc_condT rfl ?_; refine Zl rfl ?_; (refine h_alloc rfl rfl IC.zero rfl rfl rfl (fun _ => ?_)); refine hx_plain rfl ?_; refine h_store rfl rfl rfl rfl rfl rfl IC.size .head rfl rfl (Nat.le_of_ble_eq_true rfl) (List.all_eq_true.1 rfl) ?_; refine Zt ?_; refine hc_seq ?_; refine hc_draw0 (by kernel_rfl) (by kernel_rfl) ?_; (iterate 2 (refine Zf rfl rfl rfl rfl rfl ?_; refine Zh rfl rfl rfl rfl rfl rfl rfl ?_)); refine hx_plain rfl ?_; refine h_nilCheck rfl rfl rfl rfl ?_; refine hx_plain rfl ?_; refine h_load rfl rfl UC.out rfl (.tail .head) rfl rfl rfl ?_; refine hx_plain rfl ?_)
      refine h_callRd rfl rfl rfl rfl rfl rfl EC.out (fun w' h => isName_reads _ w') ?_
      (refine Zn rfl rfl rfl rfl rfl ?_; refine hc_ret ?_; refine hq_ret_block ?_; refine hq_ret_then ?_)
      exact hq_ret1 (.inr rfl) rfl rfl ⟨rfl, rfl⟩ (fun _ h => h.drop)
    | true =>
      dsimp only [rqV, RqF.ok]
      (refine Zx rfl rfl rfl rfl rfl ?_; refine hc_seq ?_; refine Zw rfl rfl rfl rfl rfl ?_; refine Zt ?_; refine hc_block ?_; (iterate 2 (refine Zl rfl ?_; refine h_taNo rfl rfl rfl rfl UC.out rfl IC.zero rfl rfl ?_; (iterate 2 (refine hx_plain rfl ?_; refine h_extract rfl rfl rfl rfl rfl ?_)); refine Zt ?_; refine hc_condF rfl ?_)); refine Zl rfl ?_; refine h_taYes rfl rfl rfl UC.out rfl rfl rfl ?_; (iterate 2 (refine hx_plain rfl ?_; refine h_extract rfl rfl rfl rfl rfl ?_)); refine Zt ?_; refine hc_condT rfl ?_; refine Zl rfl ?_; (refine h_alloc rfl rfl IC.zero rfl rfl rfl (fun _ => ?_)); refine hx_plain rfl ?_; refine h_store rfl rfl rfl rfl rfl rfl IC.size .head rfl rfl (Nat.le_of_ble_eq_true rfl) (List.all_eq_true.1 rfl) ?_; refine Zt ?_; refine hc_seq ?_; refine hc_draw0 (by kernel_rfl) (by kernel_rfl) ?_; (iterate 2 (refine Zf rfl rfl rfl rfl rfl ?_; refine Zh rfl rfl rfl rfl rfl rfl rfl ?_)); refine hx_plain rfl ?_; refine h_nilCheck rfl rfl rfl rfl ?_; refine hx_plain rfl ?_; refine h_load rfl rfl UC.out rfl (.tail .head) rfl rfl rfl ?_; refine hx_plain rfl ?_)
      refine h_callRd rfl rfl rfl rfl rfl rfl EC.out (fun w' h => isNameOrNone_reads _ w') ?_
      (refine Zn rfl rfl rfl rfl rfl ?_; refine hc_ret ?_; refine hq_ret_block ?_; refine hq_ret_then ?_)
      exact hq_ret1 (.inr rfl) rfl rfl ⟨rfl, rfl⟩ (fun _ h => h.drop)
  | id2 =>
    dsimp only [rqV, RqF.ok]
    (refine Zx rfl rfl rfl rfl rfl ?_; refine hc_seq ?_; refine Zw rfl rfl rfl rfl rfl ?_; refine Zt ?_; refine hc_block ?_; refine Zl rfl ?_; refine h_taNo rfl rfl rfl rfl UC.out rfl IC.zero rfl rfl ?_; (iterate 2 (refine hx_plain rfl ?_; refine h_extract rfl rfl rfl rfl rfl ?_)); refine Zt ?_; refine hc_condF rfl ?_; refine Zl rfl ?_; refine h_taYes rfl rfl rfl UC.out rfl rfl rfl ?_; (iterate 2 (refine hx_plain rfl ?_; refine h_extract rfl rfl rfl rfl rfl ?_)); refine Zt ?_; refine hc_condT rfl ?_; refine Zl rfl ?_; (refine h_alloc rfl rfl IC.zero rfl rfl rfl (fun _ => ?_)); refine hx_plain rfl ?_; refine h_store rfl rfl rfl rfl rfl rfl IC.size .head rfl rfl (Nat.le_of_ble_eq_true rfl) (List.all_eq_true.1 rfl) ?_; refine Zt ?_; refine Zl rfl ?_; refine h_fieldAddr0 rfl rfl FC.out rfl rfl ?_; refine Zh rfl rfl rfl rfl rfl rfl rfl ?_; refine hx_plain rfl ?_; refine h_nilCheck rfl rfl rfl rfl ?_; refine hx_plain rfl ?_; refine h_load rfl rfl UC.out rfl (.tail .head) rfl rfl rfl ?_; refine hx_plain rfl ?_)
    refine h_callR rfl rfl rfl rfl rfl rfl EC.out ((isId_spec _).reads _) ?_
    (refine Zn rfl rfl rfl rfl rfl ?_; refine hc_ret ?_; refine hq_ret_block ?_; refine hq_ret_then ?_)
    exact hq_ret1 (.inr rfl) rfl rfl ⟨rfl, rfl⟩ (fun _ h => h.drop)
  | name2 =>
    dsimp only [rqV, RqF.ok]
    (refine Zx rfl rfl rfl rfl rfl ?_; refine hc_seq ?_; refine Zw rfl rfl rfl rfl rfl ?_; refine Zt ?_; refine hc_block ?_; (iterate 2 (refine Zl rfl ?_; refine h_taNo rfl rfl rfl rfl UC.out rfl IC.zero rfl rfl ?_; (iterate 2 (refine hx_plain rfl ?_; refine h_extract rfl rfl rfl rfl rfl ?_)); refine Zt ?_; refine hc_condF rfl ?_)); refine Zl rfl ?_; refine h_taYes rfl rfl rfl UC.out rfl rfl rfl ?_; (iterate 2 (refine hx_plain rfl ?_; refine h_extract rfl rfl rfl rfl rfl ?_)); refine Zt ?_; refine hc_condT rfl ?_; refine Zl rfl ?_; (refine h_alloc rfl rfl IC.zero rfl rfl rfl (fun _ => ?_)); refine hx_plain rfl ?_; refine h_store rfl rfl rfl rfl rfl rfl IC.size .head rfl rfl (Nat.le_of_ble_eq_true rfl) (List.all_eq_true.1 rfl) ?_; refine Zt ?_; refine hc_seq ?_; refine hc_draw0 (by kernel_rfl) (by kernel_rfl) ?_; (iterate 2 (refine Zf rfl rfl rfl rfl rfl ?_; refine Zh rfl rfl rfl rfl rfl rfl rfl ?_)); refine hx_plain rfl ?_; refine h_nilCheck rfl rfl rfl rfl ?_; refine hx_plain rfl ?_; refine h_load rfl rfl UC.out rfl (.tail .head) rfl rfl rfl ?_; refine hx_plain rfl ?_)
    refine h_callRd rfl rfl rfl rfl rfl rfl EC.out (fun w' h => isName_reads _ w') ?_
    (refine Zn rfl rfl rfl rfl rfl ?_; refine hc_ret ?_; refine hq_ret_block ?_; refine hq_ret_then ?_)
    exact hq_ret1 (.inr rfl) rfl rfl ⟨rfl, rfl⟩ (fun _ h => h.drop)
  | data =>
    dsimp only [rqV, RqF.ok]
    (refine Zx rfl rfl rfl rfl rfl ?_; refine hc_seq ?_; refine Zw rfl rfl rfl rfl rfl ?_; refine Zt ?_; refine hc_block ?_; (iterate 3 (refine Zl rfl ?_; refine h_taNo rfl rfl rfl rfl UC.out rfl IC.zero rfl rfl ?_; (iterate 2 (refine hx_plain rfl ?_; refine h_extract rfl rfl rfl rfl rfl ?_)); refine Zt ?_; refine hc_condF rfl ?_)); refine Zl rfl ?_; refine h_taYes rfl rfl rfl UC.out rfl rfl rfl ?_; (iterate 2 (refine hx_plain rfl ?_; refine h_extract rfl rfl rfl rfl rfl ?_)); refine Zt ?_; refine hc_condT rfl ?_; refine Zl rfl ?_; (refine h_alloc rfl rfl IC.zero rfl rfl rfl (fun _ => ?_)); refine hx_plain rfl ?_; refine h_store rfl rfl rfl rfl rfl rfl IC.size .head rfl rfl (Nat.le_of_ble_eq_true rfl) (List.all_eq_true.1 rfl) ?_; refine Zt ?_; refine hc_seq ?_; refine hc_draw0 (by kernel_rfl) (by kernel_rfl) ?_; refine Zf rfl rfl rfl rfl rfl ?_; refine Zh rfl rfl rfl rfl rfl rfl rfl ?_; refine hx_plain rfl ?_; refine h_nilCheck rfl rfl rfl rfl ?_; refine hx_plain rfl ?_; refine h_load rfl rfl UC.out rfl (.tail .head) rfl rfl rfl ?_; refine hx_plain rfl ?_; refine h_len_slice rfl rfl rfl UC.out rfl rfl rfl ?_; refine Zf rfl rfl rfl rfl rfl ?_; refine Zh rfl rfl rfl rfl rfl rfl rfl ?_; refine Zc rfl rfl rfl rfl rfl rfl rfl ?_; refine Zm rfl rfl rfl rfl rfl ?_; refine hx_gcaseD rfl rfl rfl (fun hc => ?_) (fun hc => ?_); refine hx_yes rfl rfl rfl ?_; refine h_fieldAddr0 rfl rfl FC.out rfl rfl ?_; refine hx_yes rfl rfl rfl ?_; refine h_load rfl rfl UC.out rfl .head rfl rfl rfl ?_; refine hx_yes rfl rfl rfl ?_; refine h_nilCheck rfl rfl rfl rfl ?_; refine hx_yes rfl rfl rfl ?_; refine h_load rfl rfl UC.out rfl (.tail .head) rfl rfl rfl ?_; refine hx_yes rfl rfl rfl ?_; refine h_len_slice rfl rfl rfl UC.out rfl rfl rfl ?_; refine hx_yes rfl rfl rfl ?_; refine h_cmp rfl rfl rfl rfl rfl rfl ?_; refine Zq rfl rfl rfl rfl rfl rfl ?_; refine Zn rfl rfl rfl rfl rfl ?_; refine hc_ret ?_; refine hq_ret_block ?_; refine hq_ret_then ?_; rotate_left; (iterate 6 (refine hx_skip rfl rfl rfl rfl rfl rfl ?_)); refine Zp rfl rfl rfl rfl rfl rfl ?_; refine Zn rfl rfl rfl rfl rfl ?_; refine hc_ret ?_; refine hq_ret_block ?_; refine hq_ret_then ?_; rotate_left)
    all_goals (refine hq_ret1 (.inr rfl) rfl rfl ⟨congrArg Value.bool ?_, rfl⟩ (fun _ h => h.drop))
    all_goals first | (rw [eq_comm, Bool.and_eq_false_iff, decide_eq_false_iff_not, decide_eq_false_iff_not]; omega) | (rw [← Bool.decide_and, decide_eq_decide]; omega)
/-- How a field is emptied. -/
def ClrQ (p : Nat) (r : ReqV) (f : RqF) : Prop := ∃ t v0 fn, rqV p f = .iface t v0 ∧ (∀ w, (Go.method (Tryz.prog.types.size + Made.depth) t v0 "annex/msg.clear").run Tryz.prog w = .ok (fn, v0) w) ∧ Enters Tryz.prog fn ∧ Spec Tryz.prog fn [v0] [rqB p r] (fun u M => u = .tuple #[] ∧ M = [rqB p (f.clr r)])
theorem clrQ (p : Nat) (r : ReqV) (f : RqF) : ClrQ p r f := by
  obtain ⟨client, seq, ack, epoch, op, id, id2, off, len, path, name, name2, ⟨da, dn, dc⟩⟩ := r
  cases f with
  | id =>
    refine ⟨_, _, 169, rfl, (fun w => by kernel_rfl), EC.out, ?_⟩
    refine spec_of Tryz.func169 rfl rfl (Nat.le_of_ble_eq_true rfl) (fun w F => ?_)
    unfold rqB
    dsimp only [ReqV.cs, SlV.v]
    (refine Zl rfl ?_; (refine h_box rfl rfl rfl rfl rfl rfl (fun _ => ?_)); refine Zt ?_; refine hc_lex ?_; refine Zf rfl rfl rfl rfl rfl ?_; refine Zh rfl rfl rfl rfl rfl rfl rfl ?_; refine hx_plain rfl ?_; refine h_nilCheck rfl rfl rfl rfl ?_; refine hx_plain rfl ?_; refine h_store rfl rfl rfl rfl rfl rfl IC.size (.tail .head) rfl rfl (Nat.le_of_ble_eq_true rfl) (List.all_eq_true.1 rfl) ?_; refine hx_nil ?_)
    exact hq_ret0 (.inl rfl) rfl ⟨rfl, rfl⟩ (fun _ h => h.sub (.cons .head .nil))
  | off =>
    refine ⟨_, _, 172, rfl, (fun w => by kernel_rfl), EC.out, ?_⟩
    refine spec_of Tryz.func172 rfl rfl (Nat.le_of_ble_eq_true rfl) (fun w F => ?_)
    unfold rqB
    dsimp only [ReqV.cs, SlV.v]
    (refine Zl rfl ?_; (refine h_box rfl rfl rfl rfl rfl rfl (fun _ => ?_)); refine Zt ?_; refine hc_lex ?_; refine Zf rfl rfl rfl rfl rfl ?_; refine Zh rfl rfl rfl rfl rfl rfl rfl ?_; refine hx_plain rfl ?_; refine h_nilCheck rfl rfl rfl rfl ?_; refine hx_plain rfl ?_; refine h_store rfl rfl rfl rfl rfl rfl IC.size (.tail .head) rfl rfl (Nat.le_of_ble_eq_true rfl) (List.all_eq_true.1 rfl) ?_; refine hx_nil ?_)
    exact hq_ret0 (.inl rfl) rfl ⟨rfl, rfl⟩ (fun _ h => h.sub (.cons .head .nil))
  | len l =>
    refine ⟨_, _, 172, rfl, (fun w => by kernel_rfl), EC.out, ?_⟩
    refine spec_of Tryz.func172 rfl rfl (Nat.le_of_ble_eq_true rfl) (fun w F => ?_)
    unfold rqB
    dsimp only [ReqV.cs, SlV.v]
    (refine Zl rfl ?_; (refine h_box rfl rfl rfl rfl rfl rfl (fun _ => ?_)); refine Zt ?_; refine hc_lex ?_; refine Zf rfl rfl rfl rfl rfl ?_; refine Zh rfl rfl rfl rfl rfl rfl rfl ?_; refine hx_plain rfl ?_; refine h_nilCheck rfl rfl rfl rfl ?_; refine hx_plain rfl ?_; refine h_store rfl rfl rfl rfl rfl rfl IC.size (.tail .head) rfl rfl (Nat.le_of_ble_eq_true rfl) (List.all_eq_true.1 rfl) ?_; refine hx_nil ?_)
    exact hq_ret0 (.inl rfl) rfl ⟨rfl, rfl⟩ (fun _ h => h.sub (.cons .head .nil))
  | path =>
    refine ⟨_, _, 175, rfl, (fun w => by kernel_rfl), EC.out, ?_⟩
    refine spec_of Tryz.func175 rfl rfl (Nat.le_of_ble_eq_true rfl) (fun w F => ?_)
    unfold rqB
    dsimp only [ReqV.cs, SlV.v]
    (refine Zl rfl ?_; (refine h_box rfl rfl rfl rfl rfl rfl (fun _ => ?_)); refine Zt ?_; refine hc_lex ?_; refine Zf rfl rfl rfl rfl rfl ?_; refine Zh rfl rfl rfl rfl rfl rfl rfl ?_; refine hx_plain rfl ?_; refine h_nilCheck rfl rfl rfl rfl ?_; refine hx_plain rfl ?_; refine h_store rfl rfl rfl rfl rfl rfl IC.size (.tail .head) rfl rfl (Nat.le_of_ble_eq_true rfl) (List.all_eq_true.1 rfl) ?_; refine hx_nil ?_)
    exact hq_ret0 (.inl rfl) rfl ⟨rfl, rfl⟩ (fun _ h => h.sub (.cons .head .nil))
  | name d =>
    cases d with
    | false =>
      refine ⟨_, _, 175, rfl, (fun w => by kernel_rfl), EC.out, ?_⟩
      refine spec_of Tryz.func175 rfl rfl (Nat.le_of_ble_eq_true rfl) (fun w F => ?_)
      unfold rqB
      dsimp only [ReqV.cs, SlV.v]
      (refine Zl rfl ?_; (refine h_box rfl rfl rfl rfl rfl rfl (fun _ => ?_)); refine Zt ?_; refine hc_lex ?_; refine Zf rfl rfl rfl rfl rfl ?_; refine Zh rfl rfl rfl rfl rfl rfl rfl ?_; refine hx_plain rfl ?_; refine h_nilCheck rfl rfl rfl rfl ?_; refine hx_plain rfl ?_; refine h_store rfl rfl rfl rfl rfl rfl IC.size (.tail .head) rfl rfl (Nat.le_of_ble_eq_true rfl) (List.all_eq_true.1 rfl) ?_; refine hx_nil ?_)
      exact hq_ret0 (.inl rfl) rfl ⟨rfl, rfl⟩ (fun _ h => h.sub (.cons .head .nil))
    | true =>
      refine ⟨_, _, 175, rfl, (fun w => by kernel_rfl), EC.out, ?_⟩
      refine spec_of Tryz.func175 rfl rfl (Nat.le_of_ble_eq_true rfl) (fun w F => ?_)
      unfold rqB
      dsimp only [ReqV.cs, SlV.v]
      (refine Zl rfl ?_; (refine h_box rfl rfl rfl rfl rfl rfl (fun _ => ?_)); refine Zt ?_; refine hc_lex ?_; refine Zf rfl rfl rfl rfl rfl ?_; refine Zh rfl rfl rfl rfl rfl rfl rfl ?_; refine hx_plain rfl ?_; refine h_nilCheck rfl rfl rfl rfl ?_; refine hx_plain rfl ?_; refine h_store rfl rfl rfl rfl rfl rfl IC.size (.tail .head) rfl rfl (Nat.le_of_ble_eq_true rfl) (List.all_eq_true.1 rfl) ?_; refine hx_nil ?_)
      exact hq_ret0 (.inl rfl) rfl ⟨rfl, rfl⟩ (fun _ h => h.sub (.cons .head .nil))
  | id2 =>
    refine ⟨_, _, 169, rfl, (fun w => by kernel_rfl), EC.out, ?_⟩
    refine spec_of Tryz.func169 rfl rfl (Nat.le_of_ble_eq_true rfl) (fun w F => ?_)
    unfold rqB
    dsimp only [ReqV.cs, SlV.v]
    (refine Zl rfl ?_; (refine h_box rfl rfl rfl rfl rfl rfl (fun _ => ?_)); refine Zt ?_; refine hc_lex ?_; refine Zf rfl rfl rfl rfl rfl ?_; refine Zh rfl rfl rfl rfl rfl rfl rfl ?_; refine hx_plain rfl ?_; refine h_nilCheck rfl rfl rfl rfl ?_; refine hx_plain rfl ?_; refine h_store rfl rfl rfl rfl rfl rfl IC.size (.tail .head) rfl rfl (Nat.le_of_ble_eq_true rfl) (List.all_eq_true.1 rfl) ?_; refine hx_nil ?_)
    exact hq_ret0 (.inl rfl) rfl ⟨rfl, rfl⟩ (fun _ h => h.sub (.cons .head .nil))
  | name2 =>
    refine ⟨_, _, 175, rfl, (fun w => by kernel_rfl), EC.out, ?_⟩
    refine spec_of Tryz.func175 rfl rfl (Nat.le_of_ble_eq_true rfl) (fun w F => ?_)
    unfold rqB
    dsimp only [ReqV.cs, SlV.v]
    (refine Zl rfl ?_; (refine h_box rfl rfl rfl rfl rfl rfl (fun _ => ?_)); refine Zt ?_; refine hc_lex ?_; refine Zf rfl rfl rfl rfl rfl ?_; refine Zh rfl rfl rfl rfl rfl rfl rfl ?_; refine hx_plain rfl ?_; refine h_nilCheck rfl rfl rfl rfl ?_; refine hx_plain rfl ?_; refine h_store rfl rfl rfl rfl rfl rfl IC.size (.tail .head) rfl rfl (Nat.le_of_ble_eq_true rfl) (List.all_eq_true.1 rfl) ?_; refine hx_nil ?_)
    exact hq_ret0 (.inl rfl) rfl ⟨rfl, rfl⟩ (fun _ h => h.sub (.cons .head .nil))
  | data =>
    refine ⟨_, _, 183, rfl, (fun w => by kernel_rfl), EC.out, ?_⟩
    refine spec_of Tryz.func183 rfl rfl (Nat.le_of_ble_eq_true rfl) (fun w F => ?_)
    unfold rqB
    dsimp only [ReqV.cs, SlV.v]
    (refine Zl rfl ?_; (refine h_box rfl rfl rfl rfl rfl rfl (fun _ => ?_)); refine Zt ?_; refine hc_lex ?_; refine Zf rfl rfl rfl rfl rfl ?_; refine Zh rfl rfl rfl rfl rfl rfl rfl ?_; refine hx_plain rfl ?_; refine h_nilCheck rfl rfl rfl rfl ?_; refine hx_plain rfl ?_; refine h_store rfl rfl rfl rfl rfl rfl IC.size (.tail .head) rfl rfl (Nat.le_of_ble_eq_true rfl) (List.all_eq_true.1 rfl) ?_; refine hx_nil ?_)
    exact hq_ret0 (.inl rfl) rfl ⟨rfl, rfl⟩ (fun _ h => h.sub (.cons .head .nil))
end Go.Proofs.YtfolhmlldoepfaaGreatDoor
namespace Go.Proofs.YtfolhmlldoepfaaGreatDoor
open Go Go.Proofs Go.RowKit
set_option maxRecDepth 4000
/-- Fields in a row. -/
def rqE (p : Nat) : Elem RqF where
  sz := 1
  pos := by decide
  enc f := [rqV p f]
  len _ := rfl
  one f v hv := by
    simp at hv
    subst hv
    cases f with
    | name d => cases d <;> rfl
    | _ => rfl
def clrAll (r : ReqV) (fs : List RqF) : ReqV := fs.foldl (fun r f => f.clr r) r
set_option maxHeartbeats 4000000 in
theorem judgedQ_spec (p : Nat) (r : ReqV) (fs : List RqF) (v : Value) : Spec Tryz.prog 46 [v] [RowV (rqE p) 110 v fs, rqB p r] (fun u M => u = .bool (fs.all fun f => f.ok r) ∧ M = [RowV (rqE p) 110 v fs, rqB p (clrAll r fs)]) := by
  refine spec_of Tryz.func46 rfl rfl (Nat.le_of_ble_eq_true rfl) (fun w F => ?_)
  refine hc_know (φ := ∃ a c, v = .slice a fs.length c ∧ fs.length ≤ c ∧ c ≤ maxLen) (fun _ h => by obtain ⟨a, c, e, l, m, _⟩ := h.rdRowV .head; exact ⟨a, c, e, l, m⟩) ?_
  rintro ⟨a1, c1, rfl, l1, m1⟩
  unfold maxLen at m1
  ((iterate 2 (refine Zx rfl rfl rfl rfl rfl ?_)); refine hc_seq ?_; refine Zw rfl rfl rfl rfl rfl ?_; refine hx_plain rfl ?_; refine h_len_slice rfl rfl rfl UC.out rfl rfl rfl ?_; refine Zm rfl rfl rfl rfl rfl ?_; refine Zt ?_; refine hc_block ?_)
  refine hc_cut (id := 0) (Y := Unit) (fun _ => [(0, .slice a1 fs.length c1), (3, .bool (fs.all fun f => f.ok r))]) (fun _ => [RowV (rqE p) 110 (.slice a1 fs.length c1) fs, rqB p r]) (fun _ => True) ?_ ?_
  · refine hc_loop (X := Nat) (fun i => [(0, .slice a1 fs.length c1), (8, .slice a1 fs.length c1), (9, .int .i64 (fs.length : Int)), (10, .int .i64 (i : Int)), (3, .bool ((fs.take i).all fun f => f.ok r))]) (fun _ => [RowV (rqE p) 110 (.slice a1 fs.length c1) fs, rqB p r]) (fun i => i ≤ fs.length) (fun i => fs.length - i) 0 (.cons rfl (.cons rfl (.cons rfl (.cons rfl (.cons rfl .nil))))) (Nat.zero_le _) (fun _ h => h) ?_
    intro i hi
    by_cases hlt : i < fs.length
    · obtain ⟨f, hf⟩ : ∃ f, fs[i]? = some f := ⟨_, List.getElem?_eq_getElem hlt⟩
      have e1 : fs[((i : Nat) : Int).toNat]? = some f := hf
      have hall : ((fs.take (i + 1)).all fun f => f.ok r) = (((fs.take i).all fun f => f.ok r) && f.ok r) := by
        rw [List.take_add_one, hf]
        simp
      refine hc_rowV .head ?_ ?_
      · intro _ e
        rw [e] at hlt
        exact absurd hlt (Nat.not_lt_zero _)
      rintro g cap e
      injection e with e1' e2' e3'
      subst e1' e3'
      obtain ⟨b, hb⟩ : ∃ b, ((fs.take i).all fun f => f.ok r) = b := ⟨_, rfl⟩
      rw [hb]
      cases b
      · (refine Zl rfl ?_; refine h_cmp rfl rfl rfl rfl rfl rfl ?_; refine Zt ?_; refine hc_seq ?_; refine hc_condDT rfl (by omega) ?_; refine hc_skip ?_; refine hq_then ?_; refine hc_seq ?_; refine hc_block ?_; refine Zl rfl ?_; refine h_rowAddr rfl rfl rfl UC.out IC.size (by omega) (by omega) rfl rfl ?_; refine hx_plain rfl ?_; refine h_rowLoad1 rfl .head rfl UC.out rfl (by with_reducible assumption) rfl rfl rfl ?_; refine Zn rfl rfl rfl rfl rfl ?_; refine hc_lex ?_; (iterate 2 (refine Zm rfl rfl rfl rfl rfl ?_)); (iterate 2 (refine hx_skip rfl rfl rfl rfl rfl rfl ?_)); refine Zp rfl rfl rfl rfl rfl rfl ?_; refine Za rfl rfl rfl rfl rfl ?_; refine hx_nil ?_; refine hq_norm_block ?_; refine hq_then ?_; refine hc_lex ?_; refine hx_plain rfl ?_; refine h_arithI rfl rfl rfl rfl (by omega) rfl rfl ?_; refine Zm rfl rfl rfl rfl rfl ?_; refine hx_nil ?_)
        refine hq_round (i + 1) (by omega) (by omega) (.cons rfl (.cons rfl (.cons rfl (.cons rfl (.cons (by rw [hall, hb]; rfl) .nil))))) (fun _ h => h.rowV_mk)
      · (refine Zl rfl ?_; refine h_cmp rfl rfl rfl rfl rfl rfl ?_; refine Zt ?_; refine hc_seq ?_; refine hc_condDT rfl (by omega) ?_; refine hc_skip ?_; refine hq_then ?_; refine hc_seq ?_; refine hc_block ?_; refine Zl rfl ?_; refine h_rowAddr rfl rfl rfl UC.out IC.size (by omega) (by omega) rfl rfl ?_; refine hx_plain rfl ?_; refine h_rowLoad1 rfl .head rfl UC.out rfl (by with_reducible assumption) rfl rfl rfl ?_; refine Zn rfl rfl rfl rfl rfl ?_; refine hc_lex ?_; (iterate 2 (refine Zm rfl rfl rfl rfl rfl ?_)); refine hx_yes rfl rfl rfl ?_; refine h_move rfl rfl rfl rfl ?_; refine hx_yes rfl rfl rfl ?_)
        refine h_call rfl rfl rfl rfl rfl rfl rfl rfl EC.out (.cons (.tail .head) .nil) (fineQ_spec p r f) ?_
        rintro u M ⟨rfl, rfl⟩
        (refine Zq rfl rfl rfl rfl rfl rfl ?_; refine Za rfl rfl rfl rfl rfl ?_; refine hx_nil ?_; refine hq_norm_block ?_; refine hq_then ?_; refine hc_lex ?_; refine hx_plain rfl ?_; refine h_arithI rfl rfl rfl rfl (by omega) rfl rfl ?_; refine Zm rfl rfl rfl rfl rfl ?_; refine hx_nil ?_)
        refine hq_round (i + 1) (by omega) (by omega) (.cons rfl (.cons rfl (.cons rfl (.cons rfl (.cons (by rw [hall, hb]; rfl) .nil))))) (fun _ h => St.rowV_mk (h.perm (List.Perm.swap _ _ _)))
    · (refine Zl rfl ?_; refine h_cmp rfl rfl rfl rfl rfl rfl ?_; refine Zt ?_; refine hc_seq ?_; refine hc_condDF rfl (by omega) ?_; refine hc_exit ?_; (iterate 2 (refine hq_exit_then ?_)))
      refine hq_cut () trivial (.cons rfl (.cons (by rw [List.take_of_length_le (by omega)]; rfl) .nil)) (fun _ h => h)
  rintro ⟨⟩ _
  (refine hq_exit_block ?_; refine hq_then ?_; refine hc_seq ?_; refine Zw rfl rfl rfl rfl rfl ?_; refine hx_plain rfl ?_; refine h_len_slice rfl rfl rfl UC.out rfl rfl rfl ?_; refine Zm rfl rfl rfl rfl rfl ?_; refine Zt ?_; refine hc_block ?_)
  refine hc_cut (id := 2) (Y := Unit) (fun _ => [(3, .bool (fs.all fun f => f.ok r))]) (fun _ => [RowV (rqE p) 110 (.slice a1 fs.length c1) fs, rqB p (clrAll r fs)]) (fun _ => True) ?_ ?_
  · refine hc_loop (X := Nat) (fun i => [(3, .bool (fs.all fun f => f.ok r)), (20, .slice a1 fs.length c1), (21, .int .i64 (fs.length : Int)), (22, .int .i64 (i : Int))]) (fun i => [RowV (rqE p) 110 (.slice a1 fs.length c1) fs, rqB p (clrAll r (fs.take i))]) (fun i => i ≤ fs.length) (fun i => fs.length - i) 0 (.cons rfl (.cons rfl (.cons rfl (.cons rfl .nil)))) (Nat.zero_le _) (fun _ h => h) ?_
    intro i hi
    by_cases hlt : i < fs.length
    · obtain ⟨f, hf⟩ : ∃ f, fs[i]? = some f := ⟨_, List.getElem?_eq_getElem hlt⟩
      have e1 : fs[((i : Nat) : Int).toNat]? = some f := hf
      have hc : clrAll r (fs.take (i + 1)) = f.clr (clrAll r (fs.take i)) := by
        unfold clrAll
        rw [List.take_add_one, hf]
        simp
      refine hc_rowV .head ?_ ?_
      · intro _ e
        rw [e] at hlt
        exact absurd hlt (Nat.not_lt_zero _)
      rintro g cap e
      injection e with e1' e2' e3'
      subst e1' e3'
      obtain ⟨t, v0, fn, k1, k2, k3, k4⟩ := clrQ p (clrAll r (fs.take i)) f
      (refine Zl rfl ?_; refine h_cmp rfl rfl rfl rfl rfl rfl ?_; refine Zt ?_; refine hc_seq ?_; refine hc_condDT rfl (by omega) ?_; refine hc_skip ?_; refine hq_then ?_; refine hc_seq ?_; refine hc_block ?_; refine Zl rfl ?_; refine h_rowAddr rfl rfl rfl UC.out IC.size (by omega) (by omega) rfl rfl ?_; refine hx_plain rfl ?_; refine h_rowLoad1 rfl .head rfl UC.out rfl (by with_reducible assumption) rfl rfl rfl ?_; refine Zn rfl rfl rfl rfl rfl ?_; refine hc_lex ?_; refine Zm rfl rfl rfl rfl rfl ?_; refine hx_plain rfl ?_)
      refine h_invokeS rfl rfl rfl rfl (congrArg some k1) rfl k2 rfl rfl k3 (.cons (.tail .head) .nil) k4 ?_
      rintro u M ⟨rfl, rfl⟩
      (refine hx_nil ?_; refine hq_norm_block ?_; refine hq_then ?_; refine hc_lex ?_; refine hx_plain rfl ?_; refine h_arithI rfl rfl rfl rfl (by omega) rfl rfl ?_; refine Zm rfl rfl rfl rfl rfl ?_; refine hx_nil ?_)
      refine hq_round (i + 1) (by omega) (by omega) (.cons rfl (.cons rfl (.cons rfl (.cons rfl .nil)))) (fun _ h => ?_)
      rw [hc]
      exact St.rowV_mk (h.perm (List.Perm.swap _ _ _))
    · (refine Zl rfl ?_; refine h_cmp rfl rfl rfl rfl rfl rfl ?_; refine Zt ?_; refine hc_seq ?_; refine hc_condDF rfl (by omega) ?_; refine hc_exit ?_; (iterate 2 (refine hq_exit_then ?_)))
      refine hq_cut () trivial (.cons rfl .nil) (fun _ h => ?_)
      rw [List.take_of_length_le (by omega)] at h
      exact h
  rintro ⟨⟩ _
  (refine hq_exit_block ?_; refine hq_then ?_; refine Zw rfl rfl rfl rfl rfl ?_; refine Zn rfl rfl rfl rfl rfl ?_; refine hc_ret ?_)
  exact hq_ret1 (.inr rfl) rfl rfl ⟨rfl, rfl⟩ (fun _ h => h)
end Go.Proofs.YtfolhmlldoepfaaGreatDoor
namespace Go.Proofs.YtfolhmlldoepfaaGreatDoor
open Go Go.Proofs Go.RowKit
set_option maxRecDepth 4000
def numE : Elem Int where
  sz := 1
  pos := by decide
  enc k := [.int .i64 k]
  len _ := rfl
  one t v hv := by
    simp at hv
    subst hv
    rfl
def slpE : Elem (SlV × SlV) where
  sz := 2
  pos := by decide
  enc q := [q.1.v, q.2.v]
  len _ := rfl
  one t v hv := by
    simp at hv
    rcases hv with rfl | rfl <;> rfl
def askQ (op : Nat) : List Int := [[], [3], [0], [0, 1, 2], [0, 1, 7], [0, 4], [0, 4], [0, 4], [0, 4], [0, 4, 5, 6], [0, 2, 4]][op]?.getD []
def askP (op : Nat) : List Int := [[], [8], [8], [8, 9], [8], [8], [], [8], [], [], [10, 11]][op]?.getD []
/-- The table lies so. -/
def AskF (w : World) : Prop := ∃ tab : List (SlV × SlV), tab.length = 11 ∧ Rd slpE w (.slice (some ⟨0, 0, none⟩) 11 11) tab ∧ ∀ op, 1 ≤ op → op ≤ 10 → ∃ q, tab[op]? = some q ∧ Rd numE w q.1.v (askQ op) ∧ Rd numE w q.2.v (askP op)
theorem AskF.but {w w' : World} (h : AskF w) (hb : But w w' nowhere) : AskF w' := by
  obtain ⟨tab, h0, h1, h2⟩ := h
  exact ⟨tab, h0, h1.but hb, fun op a b => let ⟨q, e, r, s⟩ := h2 op a b; ⟨q, e, r.but hb, s.but hb⟩⟩
def fldAt (d : Bool) : Nat → RqF
  | 0 => .id
  | 1 => .off
  | 2 => .len (if d then 16 else 1024)
  | 3 => .path
  | 4 => .name d
  | 5 => .id2
  | 6 => .name2
  | _ => .data
/-- The fields of a request to an operation. -/
def rqFs (op : Int) : List RqF := (askQ op.toNat).map fun k => fldAt (decide (op = 10)) k.toNat
theorem askQ_lt {op : Nat} {k : Int} (h : k ∈ askQ op) : 0 ≤ k ∧ k < 8 := by
  unfold askQ at h
  match op, h with
  | 0, h | 1, h | 2, h | 3, h | 4, h | 5, h | 6, h | 7, h | 8, h | 9, h | 10, h => (simp at h; try omega)
  | n + 11, h => simp at h
theorem askQ_len (op : Nat) : (askQ op).length ≤ 4 := by
  unfold askQ
  match op with
  | 0 | 1 | 2 | 3 | 4 | 5 | 6 | 7 | 8 | 9 | 10 => simp
  | n + 11 => simp
theorem rqV_if (p : Nat) (f : RqF) : ∃ t v0, rqV p f = .iface t v0 := by
  cases f with
  | name d => cases d <;> exact ⟨_, _, rfl⟩
  | _ => exact ⟨_, _, rfl⟩
theorem rqE_row {p : Nat} {f : RqF} {t : Nat} {v0 : Value} (h : rqV p f = .iface t v0) : ∀ (i : Nat) (q : RqF), [f][i]? = some q → ∀ (j : Nat) (u : Value), ((rqE p).enc q)[j]? = some u → (#[Value.iface t v0] : Array Value)[i * (rqE p).sz + j]? = some u := by
  intro i q hq j u hu
  have hi : i = 0 := by
    have := (List.getElem?_eq_some_iff.1 hq).1
    have h1 : i < 1 := this
    omega
  subst hi
  have hj : j = 0 := by
    have := (List.getElem?_eq_some_iff.1 hu).1
    have h1 : j < 1 := this
    omega
  subst hj
  injection hq with hq
  subst hq
  rw [← h]
  exact hu
theorem fld_at (p : Nat) (d : Bool) {k : Nat} (hk : k < 8) : nth [rqV p (fldAt d 0), rqV p (fldAt d 1), rqV p (fldAt d 2), rqV p (fldAt d 3), rqV p (fldAt d 4), rqV p (fldAt d 5), rqV p (fldAt d 6), rqV p (fldAt d 7)] k = some (rqV p (fldAt d k)) := by
  match k, hk with
  | 0, _ | 1, _ | 2, _ | 3, _ | 4, _ | 5, _ | 6, _ | 7, _ => rfl
set_option maxHeartbeats 4000000 in
theorem ofRequest_spec {w1 : World} (hk : AskF w1) (p : Nat) (r : ReqV) (ho : 1 ≤ r.op ∧ r.op ≤ 10) : SpecB Tryz.prog w1 47 [ptrV p 0] [rqB p r] (fun u M => M = [RowV (rqE p) 110 u (rqFs r.op), rqB p r]) := by
  obtain ⟨client, seq, ack, epoch, op, id, id2, off, len, path, name, name2, ⟨da, dn, dc⟩⟩ := r
  dsimp only at ho ⊢
  refine specB_of Tryz.func47 rfl rfl (Nat.le_of_ble_eq_true rfl) (fun w F hB hF => ?_)
  unfold rqB
  dsimp only [ReqV.cs, SlV.v]
  obtain ⟨tab, ht, hrd, hop⟩ := hk
  obtain ⟨⟨⟨qa, qn, qc⟩, ⟨pa, pn, pc⟩⟩, e1, hq, _⟩ := hop op.toNat (by omega) (by omega)
  obtain ⟨_, _, e, _, _, hcl⟩ := hrd
  injection e with ea eb ec
  subst ea ec
  obtain ⟨g0, o0, e, r1⟩ := hcl.resolve_left (fun e => by rw [e] at ht; cases ht)
  injection e with e
  injection e with e e'
  subst e e'
  obtain ⟨a2, c2, he, l2, m2, k2⟩ := hq
  unfold maxLen at m2
  dsimp only [SlV.v] at he
  injection he with he1 he2 he3
  subst he1 he2 he3
  have hal := askQ_len op.toNat
  obtain ⟨d, hd⟩ : ∃ d, decide (op = 10) = d := ⟨_, rfl⟩
  unfold rqFs
  rw [hd]
  by_cases h10 : op = 10
  · obtain rfl : true = d := by rw [← hd]; exact (decide_eq_true h10).symm
    (refine Zx rfl rfl rfl rfl rfl ?_; refine Zv rfl rfl rfl rfl rfl ?_; refine Zn rfl rfl rfl rfl rfl ?_; refine hc_seq ?_; refine Zw rfl rfl rfl rfl rfl ?_; refine hx_plain rfl ?_; refine h_nilCheck rfl rfl rfl rfl ?_; refine Zf rfl rfl rfl rfl rfl ?_; refine Zh rfl rfl rfl rfl rfl rfl rfl ?_; refine Zc rfl rfl rfl rfl rfl rfl rfl ?_; refine Zt ?_; refine hc_condDT rfl (by omega) ?_; refine hc_lex ?_; refine Za rfl rfl rfl rfl rfl ?_; refine Zn rfl rfl rfl rfl rfl ?_; refine hc_seq ?_; refine hc_draw0 (by kernel_rfl) (by kernel_rfl) ?_; (iterate 2 (refine Zm rfl rfl rfl rfl rfl ?_; refine hx_plain rfl ?_; refine h_nilCheck rfl rfl rfl rfl ?_; refine Zf rfl rfl rfl rfl rfl ?_; refine hx_plain rfl ?_; refine h_build rfl inferInstance rfl rfl rfl rfl ?_; refine hx_plain rfl ?_; refine h_makeInterface rfl rfl UC.out rfl rfl rfl ?_)); refine Zm rfl rfl rfl rfl rfl ?_; refine hx_plain rfl ?_; refine h_nilCheck rfl rfl rfl rfl ?_; refine Zf rfl rfl rfl rfl rfl ?_; refine Zm rfl rfl rfl rfl rfl ?_; (iterate 2 (refine hx_plain rfl ?_; refine h_build rfl inferInstance rfl rfl rfl rfl ?_; refine hx_plain rfl ?_; refine h_makeInterface rfl rfl UC.out rfl rfl rfl ?_; refine Zm rfl rfl rfl rfl rfl ?_; refine hx_plain rfl ?_; refine h_nilCheck rfl rfl rfl rfl ?_; refine Zf rfl rfl rfl rfl rfl ?_)); refine Zm rfl rfl rfl rfl rfl ?_; (iterate 3 (refine hx_plain rfl ?_; refine h_build rfl inferInstance rfl rfl rfl rfl ?_; refine hx_plain rfl ?_; refine h_makeInterface rfl rfl UC.out rfl rfl rfl ?_; refine Zm rfl rfl rfl rfl rfl ?_; refine hx_plain rfl ?_; refine h_nilCheck rfl rfl rfl rfl ?_; refine Zf rfl rfl rfl rfl rfl ?_)); refine hx_plain rfl ?_; refine h_build rfl inferInstance rfl rfl rfl rfl ?_; refine hx_plain rfl ?_; refine h_makeInterface rfl rfl UC.out rfl rfl rfl ?_; refine hx_plain rfl ?_; refine h_buildA rfl UC.out IC.size IC.zero rfl rfl rfl (fun v hv => by simp at hv; rcases hv with rfl | rfl | rfl | rfl | rfl | rfl | rfl | rfl <;> rfl) rfl rfl ?_; refine hx_plain rfl ?_; (refine h_alloc rfl rfl IC.zero rfl rfl rfl (fun _ => ?_)); refine hx_plain rfl ?_)
    refine h_storeAll (vs := [rqV p (fldAt true 0), rqV p (fldAt true 1), rqV p (fldAt true 2), rqV p (fldAt true 3), rqV p (fldAt true 4), rqV p (fldAt true 5), rqV p (fldAt true 6), rqV p (fldAt true 7)]) rfl rfl rfl rfl rfl rfl IC.size .head (by kernel_rfl) rfl rfl (List.all_eq_true.1 rfl) ?_
    (refine Zt ?_; refine Zx rfl rfl rfl rfl rfl ?_; refine hc_seq ?_; refine Zw rfl rfl rfl rfl rfl ?_; refine hx_plain rfl ?_; refine h_nilCheck rfl rfl rfl rfl ?_; refine Zf rfl rfl rfl rfl rfl ?_; refine hx_plain rfl ?_; refine h_load rfl rfl UC.out rfl (.tail .head) rfl rfl rfl ?_; refine hx_plain rfl ?_; refine h_indexAddrA rfl rfl rfl UC.out IC.size (by omega) rfl rfl ?_; refine hx_plain rfl ?_; refine h_fieldAddr rfl rfl FC.out rfl rfl ?_; refine hx_plain rfl ?_; refine h_readB hB hF rfl r1 rfl UC.out rfl (by with_reducible assumption) rfl rfl rfl ?_; refine hx_plain rfl ?_; refine h_len_slice rfl rfl rfl UC.out rfl rfl rfl ?_; refine Zm rfl rfl rfl rfl rfl ?_; refine Zt ?_; refine hc_block ?_)
    rename_i bx
    refine hc_cut (id := 0) (Y := Value) (fun v => [(6, v)]) (fun v => [RowV (rqE p) 110 v ((askQ op.toNat).map fun k => fldAt true k.toNat), rqB p ⟨client, seq, ack, epoch, op, id, id2, off, len, path, name, name2, ⟨da, dn, dc⟩⟩]) (fun _ => True) ?_ ?_
    · refine hc_loop (X := Nat × Value) (fun x => [(5, ptrV bx 0), (6, x.2), (63, .slice qa (askQ op.toNat).length qc), (64, .int .i64 ((askQ op.toNat).length : Int)), (65, .int .i64 (x.1 : Int))]) (fun x => [RowV (rqE p) 110 x.2 (((askQ op.toNat).map fun k => fldAt true k.toNat).take x.1), Blk bx (.cells #[rqV p (fldAt true 0), rqV p (fldAt true 1), rqV p (fldAt true 2), rqV p (fldAt true 3), rqV p (fldAt true 4), rqV p (fldAt true 5), rqV p (fldAt true 6), rqV p (fldAt true 7)] 137 (0, 0)), rqB p ⟨client, seq, ack, epoch, op, id, id2, off, len, path, name, name2, ⟨da, dn, dc⟩⟩]) (fun x => x.1 ≤ (askQ op.toNat).length) (fun x => (askQ op.toNat).length - x.1) (0, .slice none 0 0) (.cons rfl (.cons rfl (.cons rfl (.cons rfl (.cons rfl .nil))))) (Nat.zero_le _) (fun _ h => h.rowV_nil) ?_
      rintro ⟨i, ov⟩ hi
      dsimp only at hi ⊢
      by_cases hlt : i < (askQ op.toNat).length
      · obtain ⟨g2, o2, rfl, r2⟩ := k2.resolve_left (fun e => by rw [e] at hlt; exact absurd hlt (Nat.not_lt_zero _))
        obtain ⟨k, hk⟩ : ∃ k, (askQ op.toNat)[i]? = some k := ⟨_, List.getElem?_eq_getElem hlt⟩
        have e2 : (askQ op.toNat)[((i : Nat) : Int).toNat]? = some k := hk
        have hk8 := askQ_lt (List.mem_iff_getElem?.2 ⟨i, hk⟩)
        have hfs : (((askQ op.toNat).map fun k => fldAt true k.toNat).take (i + 1)) = ((askQ op.toNat).map fun k => fldAt true k.toNat).take i ++ [fldAt true k.toNat] := by
          rw [List.take_add_one, List.getElem?_map, hk]
          rfl
        have hll : (((askQ op.toNat).map fun k => fldAt true k.toNat).take i).length ≤ 4 := by rw [List.length_take]; omega
        obtain ⟨t, v0, hiv⟩ := rqV_if p (fldAt true k.toNat)
        (refine Zl rfl ?_; refine h_cmp rfl rfl rfl rfl rfl rfl ?_; refine Zt ?_; refine hc_seq ?_; refine hc_condDT rfl (by omega) ?_; refine hc_skip ?_; refine hq_then ?_; refine hc_seq ?_; refine hc_block ?_; refine Zl rfl ?_; refine h_indexAddr rfl rfl rfl UC.out IC.size (by omega) (by omega) rfl rfl ?_; refine hx_plain rfl ?_; refine h_readB1 hB hF rfl r2 rfl UC.out rfl (by with_reducible assumption) rfl rfl rfl ?_; refine Zn rfl rfl rfl rfl rfl ?_; refine hc_lex ?_; (iterate 2 (refine Zm rfl rfl rfl rfl rfl ?_)); refine hx_plain rfl ?_; refine h_indexAddrA rfl rfl rfl UC.out IC.size (by omega) rfl rfl ?_; refine hx_plain rfl ?_)
        refine h_load (v := .iface t v0) rfl rfl UC.out rfl (.tail .head) ?_ rfl rfl ?_
        · rw [← hiv, Nat.zero_add, Nat.mul_one]
          exact fld_at p true (by omega)
        (refine hx_plain rfl ?_; (refine h_buildSlice rfl rfl rfl UC.out IC.size IC.zero rfl rfl (by intro v hv; simp at hv; first | (subst hv; rfl) | (rcases hv with rfl | rfl <;> rfl) | (rcases hv with rfl | rfl | rfl <;> rfl)) (by omega) rfl rfl (fun _ => ?_)); refine hx_plain rfl ?_)
        refine h_append (m := 1) (E := rqE p) (T := 110) (xs := ((askQ op.toNat).map fun k => fldAt true k.toNat).take i) (ys := [fldAt true k.toNat]) rfl rfl rfl rfl rfl UC.out IC.out rfl (.cons (.tail .head) (.cons .head .nil)) rfl (rqE_row hiv) (by unfold maxLen; omega) (by omega) rfl rfl (fun ov' _ => ?_)
        (refine Za rfl rfl rfl rfl rfl ?_; refine hx_nil ?_; refine hq_norm_block ?_; refine hq_then ?_; refine hc_lex ?_; refine hx_plain rfl ?_; refine h_arithI rfl rfl rfl rfl (by omega) rfl rfl ?_; refine Zm rfl rfl rfl rfl rfl ?_; refine hx_nil ?_)
        refine hq_round (i + 1, ov') (by show _ - (i + 1) < _ - i; omega) (by show i + 1 ≤ _; omega) (.cons rfl (.cons rfl (.cons rfl (.cons rfl (.cons rfl .nil))))) (fun _ h => ?_)
        rw [hfs]
        exact h.sub (.cons .head (.cons (.tail .head) (.cons (.tail .head) .nil)))
      · (refine Zl rfl ?_; refine h_cmp rfl rfl rfl rfl rfl rfl ?_; refine Zt ?_; refine hc_seq ?_; refine hc_condDF rfl (by omega) ?_; refine hc_exit ?_; (iterate 2 (refine hq_exit_then ?_)))
        refine hq_cut ov trivial (.cons rfl .nil) (fun _ h => ?_)
        rw [List.take_of_length_le (by rw [List.length_map]; omega)] at h
        exact h.sub (.cons .head (.cons (.tail .head) .nil))
    rintro v _
    (refine hq_exit_block ?_; refine hq_then ?_; refine Zw rfl rfl rfl rfl rfl ?_; refine Zn rfl rfl rfl rfl rfl ?_; refine hc_ret ?_)
    exact hq_ret1 (.inr rfl) rfl rfl rfl (fun _ h => h)
  · obtain rfl : false = d := by rw [← hd]; exact (decide_eq_false h10).symm
    (refine Zx rfl rfl rfl rfl rfl ?_; refine Zv rfl rfl rfl rfl rfl ?_; refine Zn rfl rfl rfl rfl rfl ?_; refine hc_seq ?_; refine Zw rfl rfl rfl rfl rfl ?_; refine hx_plain rfl ?_; refine h_nilCheck rfl rfl rfl rfl ?_; refine Zf rfl rfl rfl rfl rfl ?_; refine Zh rfl rfl rfl rfl rfl rfl rfl ?_; refine Zc rfl rfl rfl rfl rfl rfl rfl ?_; refine Zt ?_; refine hc_condDF rfl (by omega) ?_; refine hc_skip ?_; refine hq_then ?_; refine hc_seq ?_; refine hc_draw0 (by kernel_rfl) (by kernel_rfl) ?_; (iterate 2 (refine Zm rfl rfl rfl rfl rfl ?_; refine hx_plain rfl ?_; refine h_nilCheck rfl rfl rfl rfl ?_; refine Zf rfl rfl rfl rfl rfl ?_; refine hx_plain rfl ?_; refine h_build rfl inferInstance rfl rfl rfl rfl ?_; refine hx_plain rfl ?_; refine h_makeInterface rfl rfl UC.out rfl rfl rfl ?_)); refine Zm rfl rfl rfl rfl rfl ?_; refine hx_plain rfl ?_; refine h_nilCheck rfl rfl rfl rfl ?_; refine Zf rfl rfl rfl rfl rfl ?_; refine Zm rfl rfl rfl rfl rfl ?_; (iterate 2 (refine hx_plain rfl ?_; refine h_build rfl inferInstance rfl rfl rfl rfl ?_; refine hx_plain rfl ?_; refine h_makeInterface rfl rfl UC.out rfl rfl rfl ?_; refine Zm rfl rfl rfl rfl rfl ?_; refine hx_plain rfl ?_; refine h_nilCheck rfl rfl rfl rfl ?_; refine Zf rfl rfl rfl rfl rfl ?_)); refine Zm rfl rfl rfl rfl rfl ?_; (iterate 3 (refine hx_plain rfl ?_; refine h_build rfl inferInstance rfl rfl rfl rfl ?_; refine hx_plain rfl ?_; refine h_makeInterface rfl rfl UC.out rfl rfl rfl ?_; refine Zm rfl rfl rfl rfl rfl ?_; refine hx_plain rfl ?_; refine h_nilCheck rfl rfl rfl rfl ?_; refine Zf rfl rfl rfl rfl rfl ?_)); refine hx_plain rfl ?_; refine h_build rfl inferInstance rfl rfl rfl rfl ?_; refine hx_plain rfl ?_; refine h_makeInterface rfl rfl UC.out rfl rfl rfl ?_; refine hx_plain rfl ?_; refine h_buildA rfl UC.out IC.size IC.zero rfl rfl rfl (fun v hv => by simp at hv; rcases hv with rfl | rfl | rfl | rfl | rfl | rfl | rfl | rfl <;> rfl) rfl rfl ?_; refine hx_plain rfl ?_; (refine h_alloc rfl rfl IC.zero rfl rfl rfl (fun _ => ?_)); refine hx_plain rfl ?_)
    refine h_storeAll (vs := [rqV p (fldAt false 0), rqV p (fldAt false 1), rqV p (fldAt false 2), rqV p (fldAt false 3), rqV p (fldAt false 4), rqV p (fldAt false 5), rqV p (fldAt false 6), rqV p (fldAt false 7)]) rfl rfl rfl rfl rfl rfl IC.size .head (by kernel_rfl) rfl rfl (List.all_eq_true.1 rfl) ?_
    (refine Zt ?_; refine Zx rfl rfl rfl rfl rfl ?_; refine hc_seq ?_; refine Zw rfl rfl rfl rfl rfl ?_; refine hx_plain rfl ?_; refine h_nilCheck rfl rfl rfl rfl ?_; refine Zf rfl rfl rfl rfl rfl ?_; refine hx_plain rfl ?_; refine h_load rfl rfl UC.out rfl (.tail .head) rfl rfl rfl ?_; refine hx_plain rfl ?_; refine h_indexAddrA rfl rfl rfl UC.out IC.size (by omega) rfl rfl ?_; refine hx_plain rfl ?_; refine h_fieldAddr rfl rfl FC.out rfl rfl ?_; refine hx_plain rfl ?_; refine h_readB hB hF rfl r1 rfl UC.out rfl (by with_reducible assumption) rfl rfl rfl ?_; refine hx_plain rfl ?_; refine h_len_slice rfl rfl rfl UC.out rfl rfl rfl ?_; refine Zm rfl rfl rfl rfl rfl ?_; refine Zt ?_; refine hc_block ?_)
    rename_i bx
    refine hc_cut (id := 0) (Y := Value) (fun v => [(6, v)]) (fun v => [RowV (rqE p) 110 v ((askQ op.toNat).map fun k => fldAt false k.toNat), rqB p ⟨client, seq, ack, epoch, op, id, id2, off, len, path, name, name2, ⟨da, dn, dc⟩⟩]) (fun _ => True) ?_ ?_
    · refine hc_loop (X := Nat × Value) (fun x => [(5, ptrV bx 0), (6, x.2), (63, .slice qa (askQ op.toNat).length qc), (64, .int .i64 ((askQ op.toNat).length : Int)), (65, .int .i64 (x.1 : Int))]) (fun x => [RowV (rqE p) 110 x.2 (((askQ op.toNat).map fun k => fldAt false k.toNat).take x.1), Blk bx (.cells #[rqV p (fldAt false 0), rqV p (fldAt false 1), rqV p (fldAt false 2), rqV p (fldAt false 3), rqV p (fldAt false 4), rqV p (fldAt false 5), rqV p (fldAt false 6), rqV p (fldAt false 7)] 137 (0, 0)), rqB p ⟨client, seq, ack, epoch, op, id, id2, off, len, path, name, name2, ⟨da, dn, dc⟩⟩]) (fun x => x.1 ≤ (askQ op.toNat).length) (fun x => (askQ op.toNat).length - x.1) (0, .slice none 0 0) (.cons rfl (.cons rfl (.cons rfl (.cons rfl (.cons rfl .nil))))) (Nat.zero_le _) (fun _ h => h.rowV_nil) ?_
      rintro ⟨i, ov⟩ hi
      dsimp only at hi ⊢
      by_cases hlt : i < (askQ op.toNat).length
      · obtain ⟨g2, o2, rfl, r2⟩ := k2.resolve_left (fun e => by rw [e] at hlt; exact absurd hlt (Nat.not_lt_zero _))
        obtain ⟨k, hk⟩ : ∃ k, (askQ op.toNat)[i]? = some k := ⟨_, List.getElem?_eq_getElem hlt⟩
        have e2 : (askQ op.toNat)[((i : Nat) : Int).toNat]? = some k := hk
        have hk8 := askQ_lt (List.mem_iff_getElem?.2 ⟨i, hk⟩)
        have hfs : (((askQ op.toNat).map fun k => fldAt false k.toNat).take (i + 1)) = ((askQ op.toNat).map fun k => fldAt false k.toNat).take i ++ [fldAt false k.toNat] := by
          rw [List.take_add_one, List.getElem?_map, hk]
          rfl
        have hll : (((askQ op.toNat).map fun k => fldAt false k.toNat).take i).length ≤ 4 := by rw [List.length_take]; omega
        obtain ⟨t, v0, hiv⟩ := rqV_if p (fldAt false k.toNat)
        (refine Zl rfl ?_; refine h_cmp rfl rfl rfl rfl rfl rfl ?_; refine Zt ?_; refine hc_seq ?_; refine hc_condDT rfl (by omega) ?_; refine hc_skip ?_; refine hq_then ?_; refine hc_seq ?_; refine hc_block ?_; refine Zl rfl ?_; refine h_indexAddr rfl rfl rfl UC.out IC.size (by omega) (by omega) rfl rfl ?_; refine hx_plain rfl ?_; refine h_readB1 hB hF rfl r2 rfl UC.out rfl (by with_reducible assumption) rfl rfl rfl ?_; refine Zn rfl rfl rfl rfl rfl ?_; refine hc_lex ?_; (iterate 2 (refine Zm rfl rfl rfl rfl rfl ?_)); refine hx_plain rfl ?_; refine h_indexAddrA rfl rfl rfl UC.out IC.size (by omega) rfl rfl ?_; refine hx_plain rfl ?_)
        refine h_load (v := .iface t v0) rfl rfl UC.out rfl (.tail .head) ?_ rfl rfl ?_
        · rw [← hiv, Nat.zero_add, Nat.mul_one]
          exact fld_at p false (by omega)
        (refine hx_plain rfl ?_; (refine h_buildSlice rfl rfl rfl UC.out IC.size IC.zero rfl rfl (by intro v hv; simp at hv; first | (subst hv; rfl) | (rcases hv with rfl | rfl <;> rfl) | (rcases hv with rfl | rfl | rfl <;> rfl)) (by omega) rfl rfl (fun _ => ?_)); refine hx_plain rfl ?_)
        refine h_append (m := 1) (E := rqE p) (T := 110) (xs := ((askQ op.toNat).map fun k => fldAt false k.toNat).take i) (ys := [fldAt false k.toNat]) rfl rfl rfl rfl rfl UC.out IC.out rfl (.cons (.tail .head) (.cons .head .nil)) rfl (rqE_row hiv) (by unfold maxLen; omega) (by omega) rfl rfl (fun ov' _ => ?_)
        (refine Za rfl rfl rfl rfl rfl ?_; refine hx_nil ?_; refine hq_norm_block ?_; refine hq_then ?_; refine hc_lex ?_; refine hx_plain rfl ?_; refine h_arithI rfl rfl rfl rfl (by omega) rfl rfl ?_; refine Zm rfl rfl rfl rfl rfl ?_; refine hx_nil ?_)
        refine hq_round (i + 1, ov') (by show _ - (i + 1) < _ - i; omega) (by show i + 1 ≤ _; omega) (.cons rfl (.cons rfl (.cons rfl (.cons rfl (.cons rfl .nil))))) (fun _ h => ?_)
        rw [hfs]
        exact h.sub (.cons .head (.cons (.tail .head) (.cons (.tail .head) .nil)))
      · (refine Zl rfl ?_; refine h_cmp rfl rfl rfl rfl rfl rfl ?_; refine Zt ?_; refine hc_seq ?_; refine hc_condDF rfl (by omega) ?_; refine hc_exit ?_; (iterate 2 (refine hq_exit_then ?_)))
        refine hq_cut ov trivial (.cons rfl .nil) (fun _ h => ?_)
        rw [List.take_of_length_le (by rw [List.length_map]; omega)] at h
        exact h.sub (.cons .head (.cons (.tail .head) .nil))
    rintro v _
    (refine hq_exit_block ?_; refine hq_then ?_; refine Zw rfl rfl rfl rfl rfl ?_; refine Zn rfl rfl rfl rfl rfl ?_; refine hc_ret ?_)
    exact hq_ret1 (.inr rfl) rfl rfl rfl (fun _ h => h)
end Go.Proofs.YtfolhmlldoepfaaGreatDoor
namespace Go.Proofs.YtfolhmlldoepfaaGreatDoor
open Go Go.Proofs Go.RowKit
set_option maxRecDepth 4000
def nilS (s : ByteArray) : Bool := s.toList == (⟨#[]⟩ : ByteArray).toList
/-- Nothing is left in the fields. -/
def ReqV.zeroB (r : ReqV) : Bool := decide (r.id = 0) && decide (r.id2 = 0) && decide (r.off = 0) && decide (r.len = 0) && nilS r.path && nilS r.name && nilS r.name2 && decide (r.dv.len = 0)
def ReqV.good (r : ReqV) : Bool := ((rqFs r.op).all fun f => f.ok r) && (clrAll r (rqFs r.op)).zeroB
/-- How a request is judged. -/
def ReqV.chk (r : ReqV) : Int := if r.head = 0 then (if r.good then 0 else 46) else r.head
theorem head_op {r : ReqV} (h : r.head = 0) : 1 ≤ r.op ∧ r.op ≤ 10 := by
  unfold ReqV.head at h
  split at h
  · cases h
  · split at h
    · cases h
    · split at h
      · cases h
      · split at h
        · cases h
        · omega
set_option maxHeartbeats 8000000 in
theorem checkRequest_spec {w1 : World} (hk : AskF w1) (r : ReqV) : SpecB Tryz.prog w1 14 [.agg r.cs] [] (fun u M => u = .int .i64 r.chk ∧ M = []) := by
  refine specB_of Tryz.func14 rfl rfl (Nat.le_of_ble_eq_true rfl) (fun w F hB hF => ?_)
  obtain ⟨r0, hr0⟩ : ∃ r0, r0 = r := ⟨_, rfl⟩
  obtain ⟨client, seq, ack, epoch, op, id, id2, off, len, path, name, name2, ⟨da, dn, dc⟩⟩ := r
  dsimp only [ReqV.cs, SlV.v]
  (refine Zl rfl ?_; (refine h_box rfl rfl rfl rfl rfl rfl (fun _ => ?_)); refine Zn rfl rfl rfl rfl rfl ?_; refine hc_seq ?_; refine Zl rfl ?_)
  refine h_loadP (cs' := #[.int .i64 client, .int .i64 seq, .int .i64 ack, .int .i64 epoch, .int .i64 op, .int .i64 id, .int .i64 id2, .int .i64 off, .int .i64 len, .string path, .string name, .string name2, .slice da dn dc]) rfl rfl UC.out rfl IC.size .head rfl (by kernel_rfl) rfl rfl ?_
  (refine hx_plain rfl ?_)
  refine h_callR rfl rfl rfl rfl rfl rfl EC.out ((headOfRequest_spec ⟨client, seq, ack, epoch, op, id, id2, off, len, path, name, name2, ⟨da, dn, dc⟩⟩).reads _) ?_
  rw [← hr0]
  by_cases hh : r0.head = 0
  · rw [hh]
    (refine Zn rfl rfl rfl rfl rfl ?_; refine Zw rfl rfl rfl rfl rfl ?_; refine Zc rfl rfl rfl rfl rfl rfl rfl ?_; refine Zt ?_; refine hc_condF rfl ?_; refine hc_skip ?_; refine hq_then ?_; refine Zl rfl ?_)
    rename_i bx
    refine hx1_conv rfl rfl (C' := St w F [rqB bx r0]) (fun _ h => by rw [hr0]; exact h) ?_
    refine h_callB hB hF rfl rfl rfl rfl rfl rfl rfl rfl EC.out (.cons .head .nil) (ofRequest_spec hk bx r0 (head_op hh)) ?_
    rintro u M rfl
    (refine hx_plain rfl ?_)
    refine h_call rfl rfl rfl rfl rfl rfl rfl rfl EC.out (.cons .head (.cons .head .nil)) (judgedQ_spec bx r0 (rqFs r0.op) u) ?_
    rintro u2 M ⟨rfl, rfl⟩
    have hchk : r0.chk = if (((rqFs r0.op).all fun f => f.ok r0) && (clrAll r0 (rqFs r0.op)).zeroB) then 0 else 46 := by unfold ReqV.chk; rw [if_pos hh]; rfl
    rw [hchk]
    obtain ⟨b, hb⟩ : ∃ b, ((rqFs r0.op).all fun f => f.ok r0) = b := ⟨_, rfl⟩
    obtain ⟨r1, hr1⟩ : ∃ r1, clrAll r0 (rqFs r0.op) = r1 := ⟨_, rfl⟩
    rw [hb, hr1]
    clear hchk hb hr1 hr0 hh
    obtain ⟨client, seq, ack, epoch, op, id, id2, off, len, path, name, name2, ⟨da, dn, dc⟩⟩ := r1
    unfold rqB
    dsimp only [ReqV.cs, SlV.v]
    cases b
    · (refine Zn rfl rfl rfl rfl rfl ?_; refine hc_seq ?_; refine Zw rfl rfl rfl rfl rfl ?_; refine hx_plain rfl ?_; refine h_not rfl rfl rfl rfl ?_; (iterate 7 (refine Zm rfl rfl rfl rfl rfl ?_; (iterate 3 (refine hx_skip rfl rfl rfl rfl rfl rfl ?_)); refine Zq rfl rfl rfl rfl rfl rfl ?_)); refine Zm rfl rfl rfl rfl rfl ?_; (iterate 4 (refine hx_skip rfl rfl rfl rfl rfl rfl ?_)); refine Zq rfl rfl rfl rfl rfl rfl ?_; refine Zt ?_; refine hc_condT rfl ?_; refine Zx rfl rfl rfl rfl rfl ?_; refine hc_ret ?_; refine hq_ret_then ?_)
      exact hq_ret1 (.inr rfl) rfl rfl ⟨rfl, rfl⟩ (fun _ h => h.emp)
    · (refine Zn rfl rfl rfl rfl rfl ?_; refine hc_seq ?_; refine Zw rfl rfl rfl rfl rfl ?_; refine hx_plain rfl ?_; refine h_not rfl rfl rfl rfl ?_; refine Zm rfl rfl rfl rfl rfl ?_; refine hx_yes rfl rfl rfl ?_; refine h_fieldAddr0 rfl rfl FC.out rfl rfl ?_; refine hx_yes rfl rfl rfl ?_; refine h_load rfl rfl UC.out rfl (.tail .head) rfl rfl rfl ?_; refine hx_yes rfl rfl rfl ?_; refine h_cmp rfl rfl rfl rfl rfl rfl ?_; refine Zp rfl rfl rfl rfl rfl rfl ?_; refine Zm rfl rfl rfl rfl rfl ?_; refine hx_gcaseD rfl rfl rfl (fun hc => ?_) (fun hc => ?_); (iterate 6 ((iterate 3 (refine hx_skip rfl rfl rfl rfl rfl rfl ?_)); refine Zq rfl rfl rfl rfl rfl rfl ?_; refine Zm rfl rfl rfl rfl rfl ?_)); (iterate 4 (refine hx_skip rfl rfl rfl rfl rfl rfl ?_)); refine Zq rfl rfl rfl rfl rfl rfl ?_; refine Zt ?_; refine hc_condT rfl ?_; refine Zx rfl rfl rfl rfl rfl ?_; refine hc_ret ?_; refine hq_ret_then ?_; rotate_left; refine hx_yes rfl rfl rfl ?_; refine h_fieldAddr0 rfl rfl FC.out rfl rfl ?_; refine hx_yes rfl rfl rfl ?_; refine h_load rfl rfl UC.out rfl (.tail .head) rfl rfl rfl ?_; refine hx_yes rfl rfl rfl ?_; refine h_cmp rfl rfl rfl rfl rfl rfl ?_; refine Zp rfl rfl rfl rfl rfl rfl ?_; refine Zm rfl rfl rfl rfl rfl ?_; refine hx_gcaseD rfl rfl rfl (fun hc => ?_) (fun hc => ?_); (iterate 5 ((iterate 3 (refine hx_skip rfl rfl rfl rfl rfl rfl ?_)); refine Zq rfl rfl rfl rfl rfl rfl ?_; refine Zm rfl rfl rfl rfl rfl ?_)); (iterate 4 (refine hx_skip rfl rfl rfl rfl rfl rfl ?_)); refine Zq rfl rfl rfl rfl rfl rfl ?_; refine Zt ?_; refine hc_condT rfl ?_; refine Zx rfl rfl rfl rfl rfl ?_; refine hc_ret ?_; refine hq_ret_then ?_; rotate_left; refine hx_yes rfl rfl rfl ?_; refine h_fieldAddr0 rfl rfl FC.out rfl rfl ?_; refine hx_yes rfl rfl rfl ?_; refine h_load rfl rfl UC.out rfl (.tail .head) rfl rfl rfl ?_; refine hx_yes rfl rfl rfl ?_; refine h_cmp rfl rfl rfl rfl rfl rfl ?_; refine Zp rfl rfl rfl rfl rfl rfl ?_; refine Zm rfl rfl rfl rfl rfl ?_; refine hx_gcaseD rfl rfl rfl (fun hc => ?_) (fun hc => ?_); (iterate 4 ((iterate 3 (refine hx_skip rfl rfl rfl rfl rfl rfl ?_)); refine Zq rfl rfl rfl rfl rfl rfl ?_; refine Zm rfl rfl rfl rfl rfl ?_)); (iterate 4 (refine hx_skip rfl rfl rfl rfl rfl rfl ?_)); refine Zq rfl rfl rfl rfl rfl rfl ?_; refine Zt ?_; refine hc_condT rfl ?_; refine Zx rfl rfl rfl rfl rfl ?_; refine hc_ret ?_; refine hq_ret_then ?_; rotate_left; refine hx_yes rfl rfl rfl ?_; refine h_fieldAddr0 rfl rfl FC.out rfl rfl ?_; refine hx_yes rfl rfl rfl ?_; refine h_load rfl rfl UC.out rfl (.tail .head) rfl rfl rfl ?_; refine hx_yes rfl rfl rfl ?_; refine h_cmp rfl rfl rfl rfl rfl rfl ?_; refine Zp rfl rfl rfl rfl rfl rfl ?_; refine Zm rfl rfl rfl rfl rfl ?_; refine hx_gcaseD rfl rfl rfl (fun hc => ?_) (fun hc => ?_); (iterate 3 ((iterate 3 (refine hx_skip rfl rfl rfl rfl rfl rfl ?_)); refine Zq rfl rfl rfl rfl rfl rfl ?_; refine Zm rfl rfl rfl rfl rfl ?_)); (iterate 4 (refine hx_skip rfl rfl rfl rfl rfl rfl ?_)); refine Zq rfl rfl rfl rfl rfl rfl ?_; refine Zt ?_; refine hc_condT rfl ?_; refine Zx rfl rfl rfl rfl rfl ?_; refine hc_ret ?_; refine hq_ret_then ?_; rotate_left; refine hx_yes rfl rfl rfl ?_; refine h_fieldAddr0 rfl rfl FC.out rfl rfl ?_; refine hx_yes rfl rfl rfl ?_; refine h_load rfl rfl UC.out rfl (.tail .head) rfl rfl rfl ?_; refine hx_yes rfl rfl rfl ?_; refine h_cmpS rfl rfl rfl rfl rfl rfl ?_; refine Zp rfl rfl rfl rfl rfl rfl ?_; refine Zm rfl rfl rfl rfl rfl ?_; refine hx_gcase rfl rfl rfl (fun hc => ?_) (fun hc => ?_); (iterate 2 ((iterate 3 (refine hx_skip rfl rfl rfl rfl rfl rfl ?_)); refine Zq rfl rfl rfl rfl rfl rfl ?_; refine Zm rfl rfl rfl rfl rfl ?_)); (iterate 4 (refine hx_skip rfl rfl rfl rfl rfl rfl ?_)); refine Zq rfl rfl rfl rfl rfl rfl ?_; refine Zt ?_; refine hc_condT rfl ?_; refine Zx rfl rfl rfl rfl rfl ?_; refine hc_ret ?_; refine hq_ret_then ?_; rotate_left; refine hx_yes rfl rfl rfl ?_; refine h_fieldAddr0 rfl rfl FC.out rfl rfl ?_; refine hx_yes rfl rfl rfl ?_; refine h_load rfl rfl UC.out rfl (.tail .head) rfl rfl rfl ?_; refine hx_yes rfl rfl rfl ?_; refine h_cmpS rfl rfl rfl rfl rfl rfl ?_; refine Zp rfl rfl rfl rfl rfl rfl ?_; refine Zm rfl rfl rfl rfl rfl ?_; refine hx_gcase rfl rfl rfl (fun hc => ?_) (fun hc => ?_); (iterate 3 (refine hx_skip rfl rfl rfl rfl rfl rfl ?_)); refine Zq rfl rfl rfl rfl rfl rfl ?_; refine Zm rfl rfl rfl rfl rfl ?_; (iterate 4 (refine hx_skip rfl rfl rfl rfl rfl rfl ?_)); refine Zq rfl rfl rfl rfl rfl rfl ?_; refine Zt ?_; refine hc_condT rfl ?_; refine Zx rfl rfl rfl rfl rfl ?_; refine hc_ret ?_; refine hq_ret_then ?_; rotate_left; refine hx_yes rfl rfl rfl ?_; refine h_fieldAddr0 rfl rfl FC.out rfl rfl ?_; refine hx_yes rfl rfl rfl ?_; refine h_load rfl rfl UC.out rfl (.tail .head) rfl rfl rfl ?_; refine hx_yes rfl rfl rfl ?_; refine h_cmpS rfl rfl rfl rfl rfl rfl ?_; refine Zp rfl rfl rfl rfl rfl rfl ?_; refine Zm rfl rfl rfl rfl rfl ?_; refine hx_gcase rfl rfl rfl (fun hc => ?_) (fun hc => ?_); (iterate 4 (refine hx_skip rfl rfl rfl rfl rfl rfl ?_)); refine Zq rfl rfl rfl rfl rfl rfl ?_; refine Zt ?_; refine hc_condT rfl ?_; refine Zx rfl rfl rfl rfl rfl ?_; refine hc_ret ?_; refine hq_ret_then ?_; rotate_left; refine hx_yes rfl rfl rfl ?_; refine h_fieldAddr0 rfl rfl FC.out rfl rfl ?_; refine hx_yes rfl rfl rfl ?_; refine h_load rfl rfl UC.out rfl (.tail .head) rfl rfl rfl ?_; refine hx_yes rfl rfl rfl ?_; refine h_len_slice rfl rfl rfl UC.out rfl rfl rfl ?_; refine hx_yes rfl rfl rfl ?_; refine h_cmp rfl rfl rfl rfl rfl rfl ?_; refine Zp rfl rfl rfl rfl rfl rfl ?_; refine Zt ?_; refine hc_condD rfl (fun hc => ?_) (fun hc => ?_); refine Zx rfl rfl rfl rfl rfl ?_; refine hc_ret ?_; refine hq_ret_then ?_; rotate_left; refine hc_skip ?_; refine hq_then ?_; refine Zx rfl rfl rfl rfl rfl ?_; refine hc_ret ?_; rotate_left)
      all_goals
        refine hq_ret1 (.inr rfl) rfl rfl ⟨congrArg (Value.int .i64) ?_, rfl⟩ (fun _ h => h.emp)
        unfold ReqV.zeroB nilS
        dsimp only
        first | (simp_all; done) | (have hd0 : dn = 0 := by omega
                                    simp_all; done) | (have hd0 : dn ≠ 0 := by omega
                                                       simp_all; done)
  · (refine Zn rfl rfl rfl rfl rfl ?_; refine Zw rfl rfl rfl rfl rfl ?_; refine Zc rfl rfl rfl rfl rfl rfl rfl ?_; refine Zt ?_; refine hc_condDT rfl (by omega) ?_; refine Zw rfl rfl rfl rfl rfl ?_; refine Zn rfl rfl rfl rfl rfl ?_; refine hc_ret ?_; refine hq_ret_then ?_)
    exact hq_ret1 (.inr rfl) rfl rfl ⟨by unfold ReqV.chk; rw [if_neg hh], rfl⟩ (fun _ h => h.emp)
end Go.Proofs.YtfolhmlldoepfaaGreatDoor
namespace Go.Proofs.YtfolhmlldoepfaaGreatDoor
open Go Go.Proofs Go.RowKit
set_option maxRecDepth 4000
inductive RpF where
  | attr (op : Int)
  | cont
  | list
  | more
def rpV (p ov : Nat) : RpF → Value
  | .attr op => .iface 147 (.agg #[ptrV p 5, .int .i64 op])
  | .cont => .iface 136 (.agg #[ptrV p 9, .int .i64 0])
  | .list => .iface 150 (.agg #[ptrV p 10, ptrV ov 0])
  | .more => .iface 152 (.agg #[ptrV p 11, ptrV p 10])
def RpF.ok (r : RepV) (es : List EntV) : RpF → Bool
  | .attr op => attrB op r.aid r.akind r.asize r.achange
  | .cont => decide (r.dv.len ≤ 1024)
  | .list => listB none es && decide (es.length ≤ 16)
  | .more => !r.more || decide (0 < r.lv.len)
def RpF.clr (r : RepV) : RpF → RepV
  | .attr _ => { r with aid := 0, akind := 0, asize := 0, achange := 0 }
  | .cont => { r with dv := ⟨none, 0, 0⟩ }
  | .list => { r with lv := ⟨none, 0, 0⟩ }
  | .more => { r with more := false }
abbrev rpB (p : Nat) (r : RepV) : Asn := Blk p (.cells r.cs 30 (0, 0))
set_option maxHeartbeats 4000000 in
theorem fineP_spec {w1 : World} (p ov : Nat) (r : RepV) {es : List EntV} (hl : Rd entE w1 r.lv.v es) (f : RpF) : SpecB Tryz.prog w1 88 [rpV p ov f] [rpB p r] (fun u M => u = .bool (f.ok r es) ∧ M = [rpB p r]) := by
  obtain ⟨client, seq, epoch, op, status, aid, akind, asize, achange, ⟨da, dn, dc⟩, ⟨la, ln, lc⟩, more⟩ := r
  refine specB_of Tryz.func88 rfl rfl (Nat.le_of_ble_eq_true rfl) (fun w F hB hF => ?_)
  unfold rpB
  dsimp only [RepV.cs, SlV.v] at hl ⊢
  cases f with
  | attr o =>
    dsimp only [rpV, RpF.ok]
    (refine Zx rfl rfl rfl rfl rfl ?_; refine hc_seq ?_; refine Zw rfl rfl rfl rfl rfl ?_; refine Zt ?_; refine hc_block ?_; (iterate 4 (refine Zl rfl ?_; refine h_taNo rfl rfl rfl rfl UC.out rfl IC.zero rfl rfl ?_; (iterate 2 (refine hx_plain rfl ?_; refine h_extract rfl rfl rfl rfl rfl ?_)); refine Zt ?_; refine hc_condF rfl ?_)); refine Zl rfl ?_; refine h_taYes rfl rfl rfl UC.out rfl rfl rfl ?_; (iterate 2 (refine hx_plain rfl ?_; refine h_extract rfl rfl rfl rfl rfl ?_)); refine Zt ?_; refine hc_condT rfl ?_; refine Zl rfl ?_; (refine h_alloc rfl rfl IC.zero rfl rfl rfl (fun _ => ?_)); refine hx_plain rfl ?_; refine h_store rfl rfl rfl rfl rfl rfl IC.size .head rfl rfl (Nat.le_of_ble_eq_true rfl) (List.all_eq_true.1 rfl) ?_; refine Zt ?_; refine hc_seq ?_; refine hc_draw0 (by kernel_rfl) (by kernel_rfl) ?_; refine Zf rfl rfl rfl rfl rfl ?_; refine Zh rfl rfl rfl rfl rfl rfl rfl ?_; refine hx_plain rfl ?_; refine h_nilCheck rfl rfl rfl rfl ?_; refine hx_plain rfl ?_; refine h_loadP rfl rfl UC.out rfl IC.size (.tail .head) rfl rfl rfl rfl ?_; refine Zf rfl rfl rfl rfl rfl ?_; refine Zh rfl rfl rfl rfl rfl rfl rfl ?_; refine hx_plain rfl ?_)
    refine h_callR rfl rfl rfl rfl rfl rfl EC.out ((fineAttr_spec o aid akind asize achange).reads _) ?_
    (refine Zn rfl rfl rfl rfl rfl ?_; refine hc_ret ?_; refine hq_ret_block ?_; refine hq_ret_then ?_)
    exact hq_ret1 (.inr rfl) rfl rfl ⟨rfl, rfl⟩ (fun _ h => h.drop)
  | cont =>
    dsimp only [rpV, RpF.ok]
    (refine Zx rfl rfl rfl rfl rfl ?_; refine hc_seq ?_; refine Zw rfl rfl rfl rfl rfl ?_; refine Zt ?_; refine hc_block ?_; (iterate 3 (refine Zl rfl ?_; refine h_taNo rfl rfl rfl rfl UC.out rfl IC.zero rfl rfl ?_; (iterate 2 (refine hx_plain rfl ?_; refine h_extract rfl rfl rfl rfl rfl ?_)); refine Zt ?_; refine hc_condF rfl ?_)); refine Zl rfl ?_; refine h_taYes rfl rfl rfl UC.out rfl rfl rfl ?_; (iterate 2 (refine hx_plain rfl ?_; refine h_extract rfl rfl rfl rfl rfl ?_)); refine Zt ?_; refine hc_condT rfl ?_; refine Zl rfl ?_; (refine h_alloc rfl rfl IC.zero rfl rfl rfl (fun _ => ?_)); refine hx_plain rfl ?_; refine h_store rfl rfl rfl rfl rfl rfl IC.size .head rfl rfl (Nat.le_of_ble_eq_true rfl) (List.all_eq_true.1 rfl) ?_; refine Zt ?_; refine hc_seq ?_; refine hc_draw0 (by kernel_rfl) (by kernel_rfl) ?_; refine Zf rfl rfl rfl rfl rfl ?_; refine Zh rfl rfl rfl rfl rfl rfl rfl ?_; refine hx_plain rfl ?_; refine h_nilCheck rfl rfl rfl rfl ?_; refine hx_plain rfl ?_; refine h_load rfl rfl UC.out rfl (.tail .head) rfl rfl rfl ?_; refine hx_plain rfl ?_; refine h_len_slice rfl rfl rfl UC.out rfl rfl rfl ?_; refine Zf rfl rfl rfl rfl rfl ?_; refine Zh rfl rfl rfl rfl rfl rfl rfl ?_; refine Zc rfl rfl rfl rfl rfl rfl rfl ?_; refine Zm rfl rfl rfl rfl rfl ?_; refine hx_yes rfl rfl rfl ?_; refine h_fieldAddr0 rfl rfl FC.out rfl rfl ?_; refine hx_yes rfl rfl rfl ?_; refine h_load rfl rfl UC.out rfl .head rfl rfl rfl ?_; refine hx_yes rfl rfl rfl ?_; refine h_nilCheck rfl rfl rfl rfl ?_; refine hx_yes rfl rfl rfl ?_; refine h_load rfl rfl UC.out rfl (.tail .head) rfl rfl rfl ?_; refine hx_yes rfl rfl rfl ?_; refine h_len_slice rfl rfl rfl UC.out rfl rfl rfl ?_; refine hx_yes rfl rfl rfl ?_; refine h_cmp rfl rfl rfl rfl rfl rfl ?_; refine Zq rfl rfl rfl rfl rfl rfl ?_; refine Zn rfl rfl rfl rfl rfl ?_; refine hc_ret ?_; refine hq_ret_block ?_; refine hq_ret_then ?_)
    all_goals (refine hq_ret1 (.inr rfl) rfl rfl ⟨congrArg Value.bool ?_, rfl⟩ (fun _ h => h.drop))
    all_goals (rw [decide_eq_decide]; omega)
  | list =>
    dsimp only [rpV, RpF.ok]
    (refine Zx rfl rfl rfl rfl rfl ?_; refine hc_seq ?_; refine Zw rfl rfl rfl rfl rfl ?_; refine Zt ?_; refine hc_block ?_; (iterate 5 (refine Zl rfl ?_; refine h_taNo rfl rfl rfl rfl UC.out rfl IC.zero rfl rfl ?_; (iterate 2 (refine hx_plain rfl ?_; refine h_extract rfl rfl rfl rfl rfl ?_)); refine Zt ?_; refine hc_condF rfl ?_)); refine Zl rfl ?_; refine h_taYes rfl rfl rfl UC.out rfl rfl rfl ?_; (iterate 2 (refine hx_plain rfl ?_; refine h_extract rfl rfl rfl rfl rfl ?_)); refine Zt ?_; refine hc_condT rfl ?_; refine Zl rfl ?_; (refine h_alloc rfl rfl IC.zero rfl rfl rfl (fun _ => ?_)); refine hx_plain rfl ?_; refine h_store rfl rfl rfl rfl rfl rfl IC.size .head rfl rfl (Nat.le_of_ble_eq_true rfl) (List.all_eq_true.1 rfl) ?_; refine Zt ?_; refine Zl rfl ?_; refine h_fieldAddr0 rfl rfl FC.out rfl rfl ?_; refine Zh rfl rfl rfl rfl rfl rfl rfl ?_; refine hx_plain rfl ?_; refine h_nilCheck rfl rfl rfl rfl ?_; refine hx_plain rfl ?_; refine h_load rfl rfl UC.out rfl (.tail .head) rfl rfl rfl ?_; refine hx_plain rfl ?_)
    refine h_callRd rfl rfl rfl rfl rfl rfl EC.out (fun w' h => fineList_reads (hl.but (h.butB hB hF))) ?_
    (refine Zn rfl rfl rfl rfl rfl ?_; refine hc_ret ?_; refine hq_ret_block ?_; refine hq_ret_then ?_)
    exact hq_ret1 (.inr rfl) rfl rfl ⟨rfl, rfl⟩ (fun _ h => h.drop)
  | more =>
    dsimp only [rpV, RpF.ok]
    cases more
    ·
      (refine Zx rfl rfl rfl rfl rfl ?_; refine hc_seq ?_; refine Zw rfl rfl rfl rfl rfl ?_; refine Zt ?_; refine hc_block ?_; (iterate 6 (refine Zl rfl ?_; refine h_taNo rfl rfl rfl rfl UC.out rfl IC.zero rfl rfl ?_; (iterate 2 (refine hx_plain rfl ?_; refine h_extract rfl rfl rfl rfl rfl ?_)); refine Zt ?_; refine hc_condF rfl ?_)); refine Zl rfl ?_; refine h_taYes rfl rfl rfl UC.out rfl rfl rfl ?_; (iterate 2 (refine hx_plain rfl ?_; refine h_extract rfl rfl rfl rfl rfl ?_)); refine Zt ?_; refine hc_condT rfl ?_; refine Zl rfl ?_; (refine h_alloc rfl rfl IC.zero rfl rfl rfl (fun _ => ?_)); refine hx_plain rfl ?_; refine h_store rfl rfl rfl rfl rfl rfl IC.size .head rfl rfl (Nat.le_of_ble_eq_true rfl) (List.all_eq_true.1 rfl) ?_; refine Zt ?_; refine Zl rfl ?_; refine h_fieldAddr0 rfl rfl FC.out rfl rfl ?_; refine Zh rfl rfl rfl rfl rfl rfl rfl ?_; refine hx_plain rfl ?_; refine h_nilCheck rfl rfl rfl rfl ?_; refine hx_plain rfl ?_; refine h_load rfl rfl UC.out rfl (.tail .head) rfl rfl rfl ?_; refine hx_plain rfl ?_; refine h_not rfl rfl rfl rfl ?_; refine Zm rfl rfl rfl rfl rfl ?_; (iterate 6 (refine hx_skip rfl rfl rfl rfl rfl rfl ?_)); refine Zq rfl rfl rfl rfl rfl rfl ?_; refine Zn rfl rfl rfl rfl rfl ?_; refine hc_ret ?_; refine hq_ret_block ?_; refine hq_ret_then ?_)
      exact hq_ret1 (.inr rfl) rfl rfl ⟨by simp, rfl⟩ (fun _ h => h.drop)
    ·
      (refine Zx rfl rfl rfl rfl rfl ?_; refine hc_seq ?_; refine Zw rfl rfl rfl rfl rfl ?_; refine Zt ?_; refine hc_block ?_; (iterate 6 (refine Zl rfl ?_; refine h_taNo rfl rfl rfl rfl UC.out rfl IC.zero rfl rfl ?_; (iterate 2 (refine hx_plain rfl ?_; refine h_extract rfl rfl rfl rfl rfl ?_)); refine Zt ?_; refine hc_condF rfl ?_)); refine Zl rfl ?_; refine h_taYes rfl rfl rfl UC.out rfl rfl rfl ?_; (iterate 2 (refine hx_plain rfl ?_; refine h_extract rfl rfl rfl rfl rfl ?_)); refine Zt ?_; refine hc_condT rfl ?_; refine Zl rfl ?_; (refine h_alloc rfl rfl IC.zero rfl rfl rfl (fun _ => ?_)); refine hx_plain rfl ?_; refine h_store rfl rfl rfl rfl rfl rfl IC.size .head rfl rfl (Nat.le_of_ble_eq_true rfl) (List.all_eq_true.1 rfl) ?_; refine Zt ?_; refine Zl rfl ?_; refine h_fieldAddr0 rfl rfl FC.out rfl rfl ?_; refine Zh rfl rfl rfl rfl rfl rfl rfl ?_; refine hx_plain rfl ?_; refine h_nilCheck rfl rfl rfl rfl ?_; refine hx_plain rfl ?_; refine h_load rfl rfl UC.out rfl (.tail .head) rfl rfl rfl ?_; refine hx_plain rfl ?_; refine h_not rfl rfl rfl rfl ?_; refine Zm rfl rfl rfl rfl rfl ?_; refine hx_yes rfl rfl rfl ?_; refine h_fieldAddr0 rfl rfl FC.out rfl rfl ?_; refine hx_yes rfl rfl rfl ?_; refine h_load rfl rfl UC.out rfl .head rfl rfl rfl ?_; refine hx_yes rfl rfl rfl ?_; refine h_nilCheck rfl rfl rfl rfl ?_; refine hx_yes rfl rfl rfl ?_; refine h_load rfl rfl UC.out rfl (.tail .head) rfl rfl rfl ?_; refine hx_yes rfl rfl rfl ?_; refine h_len_slice rfl rfl rfl UC.out rfl rfl rfl ?_; refine hx_yes rfl rfl rfl ?_; refine h_cmp rfl rfl rfl rfl rfl rfl ?_; refine Zp rfl rfl rfl rfl rfl rfl ?_; refine Zn rfl rfl rfl rfl rfl ?_; refine hc_ret ?_; refine hq_ret_block ?_; refine hq_ret_then ?_)
      exact hq_ret1 (.inr rfl) rfl rfl ⟨by simp, rfl⟩ (fun _ h => h.drop)
/-- How a field is emptied. -/
def ClrP (p ov : Nat) (r : RepV) (f : RpF) : Prop := ∃ t v0 fn, rpV p ov f = .iface t v0 ∧ (∀ w, (Go.method (Tryz.prog.types.size + Made.depth) t v0 "annex/msg.clear").run Tryz.prog w = .ok (fn, v0) w) ∧ Enters Tryz.prog fn ∧ Spec Tryz.prog fn [v0] [rpB p r] (fun u M => u = .tuple #[] ∧ M = [rpB p (f.clr r)])
theorem clrP (p ov : Nat) (r : RepV) (f : RpF) : ClrP p ov r f := by
  obtain ⟨client, seq, epoch, op, status, aid, akind, asize, achange, ⟨da, dn, dc⟩, ⟨la, ln, lc⟩, more⟩ := r
  cases f with
  | attr o =>
    refine ⟨_, _, 187, rfl, (fun w => by kernel_rfl), EC.out, ?_⟩
    refine spec_of Tryz.func187 rfl rfl (Nat.le_of_ble_eq_true rfl) (fun w F => ?_)
    unfold rpB
    dsimp only [RepV.cs, SlV.v]
    (refine Zl rfl ?_; (refine h_box rfl rfl rfl rfl rfl rfl (fun _ => ?_)); refine Zt ?_; refine hc_lex ?_; refine Zf rfl rfl rfl rfl rfl ?_; refine Zh rfl rfl rfl rfl rfl rfl rfl ?_; refine hx_plain rfl ?_; refine h_build rfl inferInstance rfl rfl rfl rfl ?_; refine hx_plain rfl ?_; refine h_nilCheck rfl rfl rfl rfl ?_; refine hx_plain rfl ?_; refine h_store rfl rfl rfl rfl rfl rfl IC.size (.tail .head) rfl rfl (Nat.le_of_ble_eq_true rfl) (List.all_eq_true.1 rfl) ?_; refine hx_nil ?_)
    exact hq_ret0 (.inl rfl) rfl ⟨rfl, rfl⟩ (fun _ h => h.sub (.cons .head .nil))
  | cont =>
    refine ⟨_, _, 183, rfl, (fun w => by kernel_rfl), EC.out, ?_⟩
    refine spec_of Tryz.func183 rfl rfl (Nat.le_of_ble_eq_true rfl) (fun w F => ?_)
    unfold rpB
    dsimp only [RepV.cs, SlV.v]
    (refine Zl rfl ?_; (refine h_box rfl rfl rfl rfl rfl rfl (fun _ => ?_)); refine Zt ?_; refine hc_lex ?_; refine Zf rfl rfl rfl rfl rfl ?_; refine Zh rfl rfl rfl rfl rfl rfl rfl ?_; refine hx_plain rfl ?_; refine h_nilCheck rfl rfl rfl rfl ?_; refine hx_plain rfl ?_; refine h_store rfl rfl rfl rfl rfl rfl IC.size (.tail .head) rfl rfl (Nat.le_of_ble_eq_true rfl) (List.all_eq_true.1 rfl) ?_; refine hx_nil ?_)
    exact hq_ret0 (.inl rfl) rfl ⟨rfl, rfl⟩ (fun _ h => h.sub (.cons .head .nil))
  | list =>
    refine ⟨_, _, 190, rfl, (fun w => by kernel_rfl), EC.out, ?_⟩
    refine spec_of Tryz.func190 rfl rfl (Nat.le_of_ble_eq_true rfl) (fun w F => ?_)
    unfold rpB
    dsimp only [RepV.cs, SlV.v]
    (refine Zl rfl ?_; (refine h_box rfl rfl rfl rfl rfl rfl (fun _ => ?_)); refine Zt ?_; refine hc_lex ?_; refine Zf rfl rfl rfl rfl rfl ?_; refine Zh rfl rfl rfl rfl rfl rfl rfl ?_; refine hx_plain rfl ?_; refine h_nilCheck rfl rfl rfl rfl ?_; refine hx_plain rfl ?_; refine h_store rfl rfl rfl rfl rfl rfl IC.size (.tail .head) rfl rfl (Nat.le_of_ble_eq_true rfl) (List.all_eq_true.1 rfl) ?_; refine hx_nil ?_)
    exact hq_ret0 (.inl rfl) rfl ⟨rfl, rfl⟩ (fun _ h => h.sub (.cons .head .nil))
  | more =>
    refine ⟨_, _, 193, rfl, (fun w => by kernel_rfl), EC.out, ?_⟩
    refine spec_of Tryz.func193 rfl rfl (Nat.le_of_ble_eq_true rfl) (fun w F => ?_)
    unfold rpB
    dsimp only [RepV.cs, SlV.v]
    (refine Zl rfl ?_; (refine h_box rfl rfl rfl rfl rfl rfl (fun _ => ?_)); refine Zt ?_; refine hc_lex ?_; refine Zf rfl rfl rfl rfl rfl ?_; refine Zh rfl rfl rfl rfl rfl rfl rfl ?_; refine hx_plain rfl ?_; refine h_nilCheck rfl rfl rfl rfl ?_; refine hx_plain rfl ?_; refine h_store rfl rfl rfl rfl rfl rfl IC.size (.tail .head) rfl rfl (Nat.le_of_ble_eq_true rfl) (List.all_eq_true.1 rfl) ?_; refine hx_nil ?_)
    exact hq_ret0 (.inl rfl) rfl ⟨rfl, rfl⟩ (fun _ h => h.sub (.cons .head .nil))
end Go.Proofs.YtfolhmlldoepfaaGreatDoor
namespace Go.Proofs.YtfolhmlldoepfaaGreatDoor
open Go Go.Proofs Go.RowKit
set_option maxRecDepth 4000
/-- Fields in a row. -/
def rpE (p ov : Nat) : Elem RpF where
  sz := 1
  pos := by decide
  enc f := [rpV p ov f]
  len _ := rfl
  one f v hv := by
    simp at hv
    subst hv
    cases f <;> rfl
def clrAllP (r : RepV) (fs : List RpF) : RepV := fs.foldl (fun r f => f.clr r) r
set_option maxHeartbeats 4000000 in
theorem judgedP_spec {w1 : World} (p ov : Nat) (r : RepV) {es : List EntV} (hl : Rd entE w1 r.lv.v es) (fs : List RpF) (v : Value) : SpecB Tryz.prog w1 46 [v] [RowV (rpE p ov) 110 v fs, rpB p r] (fun u M => u = .bool (fs.all fun f => f.ok r es) ∧ M = [RowV (rpE p ov) 110 v fs, rpB p (clrAllP r fs)]) := by
  refine specB_of Tryz.func46 rfl rfl (Nat.le_of_ble_eq_true rfl) (fun w F hB hF => ?_)
  refine hc_know (φ := ∃ a c, v = .slice a fs.length c ∧ fs.length ≤ c ∧ c ≤ maxLen) (fun _ h => by obtain ⟨a, c, e, l, m, _⟩ := h.rdRowV .head; exact ⟨a, c, e, l, m⟩) ?_
  rintro ⟨a1, c1, rfl, l1, m1⟩
  unfold maxLen at m1
  ((iterate 2 (refine Zx rfl rfl rfl rfl rfl ?_)); refine hc_seq ?_; refine Zw rfl rfl rfl rfl rfl ?_; refine hx_plain rfl ?_; refine h_len_slice rfl rfl rfl UC.out rfl rfl rfl ?_; refine Zm rfl rfl rfl rfl rfl ?_; refine Zt ?_; refine hc_block ?_)
  refine hc_cut (id := 0) (Y := Unit) (fun _ => [(0, .slice a1 fs.length c1), (3, .bool (fs.all fun f => f.ok r es))]) (fun _ => [RowV (rpE p ov) 110 (.slice a1 fs.length c1) fs, rpB p r]) (fun _ => True) ?_ ?_
  · refine hc_loop (X := Nat) (fun i => [(0, .slice a1 fs.length c1), (8, .slice a1 fs.length c1), (9, .int .i64 (fs.length : Int)), (10, .int .i64 (i : Int)), (3, .bool ((fs.take i).all fun f => f.ok r es))]) (fun _ => [RowV (rpE p ov) 110 (.slice a1 fs.length c1) fs, rpB p r]) (fun i => i ≤ fs.length) (fun i => fs.length - i) 0 (.cons rfl (.cons rfl (.cons rfl (.cons rfl (.cons rfl .nil))))) (Nat.zero_le _) (fun _ h => h) ?_
    intro i hi
    by_cases hlt : i < fs.length
    · obtain ⟨f, hf⟩ : ∃ f, fs[i]? = some f := ⟨_, List.getElem?_eq_getElem hlt⟩
      have e1 : fs[((i : Nat) : Int).toNat]? = some f := hf
      have hall : ((fs.take (i + 1)).all fun f => f.ok r es) = (((fs.take i).all fun f => f.ok r es) && f.ok r es) := by
        rw [List.take_add_one, hf]
        simp
      refine hc_rowV .head ?_ ?_
      · intro _ e
        rw [e] at hlt
        exact absurd hlt (Nat.not_lt_zero _)
      rintro g cap e
      injection e with e1' e2' e3'
      subst e1' e3'
      obtain ⟨b, hb⟩ : ∃ b, ((fs.take i).all fun f => f.ok r es) = b := ⟨_, rfl⟩
      rw [hb]
      cases b
      · (refine Zl rfl ?_; refine h_cmp rfl rfl rfl rfl rfl rfl ?_; refine Zt ?_; refine hc_seq ?_; refine hc_condDT rfl (by omega) ?_; refine hc_skip ?_; refine hq_then ?_; refine hc_seq ?_; refine hc_block ?_; refine Zl rfl ?_; refine h_rowAddr rfl rfl rfl UC.out IC.size (by omega) (by omega) rfl rfl ?_; refine hx_plain rfl ?_; refine h_rowLoad1 rfl .head rfl UC.out rfl (by with_reducible assumption) rfl rfl rfl ?_; refine Zn rfl rfl rfl rfl rfl ?_; refine hc_lex ?_; (iterate 2 (refine Zm rfl rfl rfl rfl rfl ?_)); (iterate 2 (refine hx_skip rfl rfl rfl rfl rfl rfl ?_)); refine Zp rfl rfl rfl rfl rfl rfl ?_; refine Za rfl rfl rfl rfl rfl ?_; refine hx_nil ?_; refine hq_norm_block ?_; refine hq_then ?_; refine hc_lex ?_; refine hx_plain rfl ?_; refine h_arithI rfl rfl rfl rfl (by omega) rfl rfl ?_; refine Zm rfl rfl rfl rfl rfl ?_; refine hx_nil ?_)
        refine hq_round (i + 1) (by omega) (by omega) (.cons rfl (.cons rfl (.cons rfl (.cons rfl (.cons (by rw [hall, hb]; rfl) .nil))))) (fun _ h => h.rowV_mk)
      · (refine Zl rfl ?_; refine h_cmp rfl rfl rfl rfl rfl rfl ?_; refine Zt ?_; refine hc_seq ?_; refine hc_condDT rfl (by omega) ?_; refine hc_skip ?_; refine hq_then ?_; refine hc_seq ?_; refine hc_block ?_; refine Zl rfl ?_; refine h_rowAddr rfl rfl rfl UC.out IC.size (by omega) (by omega) rfl rfl ?_; refine hx_plain rfl ?_; refine h_rowLoad1 rfl .head rfl UC.out rfl (by with_reducible assumption) rfl rfl rfl ?_; refine Zn rfl rfl rfl rfl rfl ?_; refine hc_lex ?_; (iterate 2 (refine Zm rfl rfl rfl rfl rfl ?_)); refine hx_yes rfl rfl rfl ?_; refine h_move rfl rfl rfl rfl ?_; refine hx_yes rfl rfl rfl ?_)
        refine h_callB hB hF rfl rfl rfl rfl rfl rfl rfl rfl EC.out (.cons (.tail .head) .nil) (fineP_spec p ov r hl f) ?_
        rintro u M ⟨rfl, rfl⟩
        (refine Zq rfl rfl rfl rfl rfl rfl ?_; refine Za rfl rfl rfl rfl rfl ?_; refine hx_nil ?_; refine hq_norm_block ?_; refine hq_then ?_; refine hc_lex ?_; refine hx_plain rfl ?_; refine h_arithI rfl rfl rfl rfl (by omega) rfl rfl ?_; refine Zm rfl rfl rfl rfl rfl ?_; refine hx_nil ?_)
        refine hq_round (i + 1) (by omega) (by omega) (.cons rfl (.cons rfl (.cons rfl (.cons rfl (.cons (by rw [hall, hb]; rfl) .nil))))) (fun _ h => St.rowV_mk (h.perm (List.Perm.swap _ _ _)))
    · (refine Zl rfl ?_; refine h_cmp rfl rfl rfl rfl rfl rfl ?_; refine Zt ?_; refine hc_seq ?_; refine hc_condDF rfl (by omega) ?_; refine hc_exit ?_; (iterate 2 (refine hq_exit_then ?_)))
      refine hq_cut () trivial (.cons rfl (.cons (by rw [List.take_of_length_le (by omega)]; rfl) .nil)) (fun _ h => h)
  rintro ⟨⟩ _
  (refine hq_exit_block ?_; refine hq_then ?_; refine hc_seq ?_; refine Zw rfl rfl rfl rfl rfl ?_; refine hx_plain rfl ?_; refine h_len_slice rfl rfl rfl UC.out rfl rfl rfl ?_; refine Zm rfl rfl rfl rfl rfl ?_; refine Zt ?_; refine hc_block ?_)
  refine hc_cut (id := 2) (Y := Unit) (fun _ => [(3, .bool (fs.all fun f => f.ok r es))]) (fun _ => [RowV (rpE p ov) 110 (.slice a1 fs.length c1) fs, rpB p (clrAllP r fs)]) (fun _ => True) ?_ ?_
  · refine hc_loop (X := Nat) (fun i => [(3, .bool (fs.all fun f => f.ok r es)), (20, .slice a1 fs.length c1), (21, .int .i64 (fs.length : Int)), (22, .int .i64 (i : Int))]) (fun i => [RowV (rpE p ov) 110 (.slice a1 fs.length c1) fs, rpB p (clrAllP r (fs.take i))]) (fun i => i ≤ fs.length) (fun i => fs.length - i) 0 (.cons rfl (.cons rfl (.cons rfl (.cons rfl .nil)))) (Nat.zero_le _) (fun _ h => h) ?_
    intro i hi
    by_cases hlt : i < fs.length
    · obtain ⟨f, hf⟩ : ∃ f, fs[i]? = some f := ⟨_, List.getElem?_eq_getElem hlt⟩
      have e1 : fs[((i : Nat) : Int).toNat]? = some f := hf
      have hc : clrAllP r (fs.take (i + 1)) = f.clr (clrAllP r (fs.take i)) := by
        unfold clrAllP
        rw [List.take_add_one, hf]
        simp
      refine hc_rowV .head ?_ ?_
      · intro _ e
        rw [e] at hlt
        exact absurd hlt (Nat.not_lt_zero _)
      rintro g cap e
      injection e with e1' e2' e3'
      subst e1' e3'
      obtain ⟨t, v0, fn, k1, k2, k3, k4⟩ := clrP p ov (clrAllP r (fs.take i)) f
      (refine Zl rfl ?_; refine h_cmp rfl rfl rfl rfl rfl rfl ?_; refine Zt ?_; refine hc_seq ?_; refine hc_condDT rfl (by omega) ?_; refine hc_skip ?_; refine hq_then ?_; refine hc_seq ?_; refine hc_block ?_; refine Zl rfl ?_; refine h_rowAddr rfl rfl rfl UC.out IC.size (by omega) (by omega) rfl rfl ?_; refine hx_plain rfl ?_; refine h_rowLoad1 rfl .head rfl UC.out rfl (by with_reducible assumption) rfl rfl rfl ?_; refine Zn rfl rfl rfl rfl rfl ?_; refine hc_lex ?_; refine Zm rfl rfl rfl rfl rfl ?_; refine hx_plain rfl ?_)
      refine h_invokeS rfl rfl rfl rfl (congrArg some k1) rfl k2 rfl rfl k3 (.cons (.tail .head) .nil) k4 ?_
      rintro u M ⟨rfl, rfl⟩
      (refine hx_nil ?_; refine hq_norm_block ?_; refine hq_then ?_; refine hc_lex ?_; refine hx_plain rfl ?_; refine h_arithI rfl rfl rfl rfl (by omega) rfl rfl ?_; refine Zm rfl rfl rfl rfl rfl ?_; refine hx_nil ?_)
      refine hq_round (i + 1) (by omega) (by omega) (.cons rfl (.cons rfl (.cons rfl (.cons rfl .nil)))) (fun _ h => ?_)
      rw [hc]
      exact St.rowV_mk (h.perm (List.Perm.swap _ _ _))
    · (refine Zl rfl ?_; refine h_cmp rfl rfl rfl rfl rfl rfl ?_; refine Zt ?_; refine hc_seq ?_; refine hc_condDF rfl (by omega) ?_; refine hc_exit ?_; (iterate 2 (refine hq_exit_then ?_)))
      refine hq_cut () trivial (.cons rfl .nil) (fun _ h => ?_)
      rw [List.take_of_length_le (by omega)] at h
      exact h
  rintro ⟨⟩ _
  (refine hq_exit_block ?_; refine hq_then ?_; refine Zw rfl rfl rfl rfl rfl ?_; refine Zn rfl rfl rfl rfl rfl ?_; refine hc_ret ?_)
  exact hq_ret1 (.inr rfl) rfl rfl ⟨rfl, rfl⟩ (fun _ h => h)
end Go.Proofs.YtfolhmlldoepfaaGreatDoor
namespace Go.Proofs.YtfolhmlldoepfaaGreatDoor
open Go Go.Proofs Go.RowKit
set_option maxRecDepth 4000
def fldP (op : Int) : Nat → RpF
  | 8 => .attr op
  | 9 => .cont
  | 10 => .list
  | _ => .more
/-- The fields of a reply. -/
def rpFs (op : Int) : List RpF := (askP op.toNat).map fun k => fldP op k.toNat
theorem askP_lt {op : Nat} {k : Int} (h : k ∈ askP op) : 8 ≤ k ∧ k < 12 := by
  unfold askP at h
  match op, h with
  | 0, h | 1, h | 2, h | 3, h | 4, h | 5, h | 6, h | 7, h | 8, h | 9, h | 10, h => (simp at h; try omega)
  | n + 11, h => simp at h
theorem askP_len (op : Nat) : (askP op).length ≤ 2 := by
  unfold askP
  match op with
  | 0 | 1 | 2 | 3 | 4 | 5 | 6 | 7 | 8 | 9 | 10 => simp
  | n + 11 => simp
theorem rpV_if (p ov : Nat) (f : RpF) : ∃ t v0, rpV p ov f = .iface t v0 := by
  cases f <;> exact ⟨_, _, rfl⟩
theorem rpE_row {p ov : Nat} {f : RpF} {t : Nat} {v0 : Value} (h : rpV p ov f = .iface t v0) : ∀ (i : Nat) (q : RpF), [f][i]? = some q → ∀ (j : Nat) (u : Value), ((rpE p ov).enc q)[j]? = some u → (#[Value.iface t v0] : Array Value)[i * (rpE p ov).sz + j]? = some u := by
  intro i q hq j u hu
  have hi : i = 0 := by
    have := (List.getElem?_eq_some_iff.1 hq).1
    have h1 : i < 1 := this
    omega
  subst hi
  have hj : j = 0 := by
    have := (List.getElem?_eq_some_iff.1 hu).1
    have h1 : j < 1 := this
    omega
  subst hj
  injection hq with hq
  subst hq
  rw [← h]
  exact hu
theorem fldP_at (p ov : Nat) (op : Int) {k : Nat} (hk : 8 ≤ k ∧ k < 12) : nth [.nilIface, .nilIface, .nilIface, .nilIface, .nilIface, .nilIface, .nilIface, .nilIface, rpV p ov (fldP op 8), rpV p ov (fldP op 9), rpV p ov (fldP op 10), rpV p ov (fldP op 11)] k = some (rpV p ov (fldP op k)) := by
  obtain rfl | rfl | rfl | rfl : k = 8 ∨ k = 9 ∨ k = 10 ∨ k = 11 := by omega
  all_goals rfl
set_option maxHeartbeats 4000000 in
theorem ofReply_spec {w1 : World} (hk : AskF w1) (p ov : Nat) (r : RepV) (ho : 1 ≤ r.op ∧ r.op ≤ 10) : SpecB Tryz.prog w1 52 [ptrV p 0, ptrV ov 0] [rpB p r] (fun u M => M = [RowV (rpE p ov) 110 u (if r.status = 0 then rpFs r.op else []), rpB p r]) := by
  obtain ⟨client, seq, epoch, op, status, aid, akind, asize, achange, ⟨da, dn, dc⟩, ⟨la, ln, lc⟩, more⟩ := r
  dsimp only at ho ⊢
  refine specB_of Tryz.func52 rfl rfl (Nat.le_of_ble_eq_true rfl) (fun w F hB hF => ?_)
  unfold rpB
  dsimp only [RepV.cs, SlV.v]
  obtain ⟨tab, ht, hrd, hop⟩ := hk
  obtain ⟨⟨⟨qa, qn, qc⟩, ⟨pa, pn, pc⟩⟩, e1, _, hq⟩ := hop op.toNat (by omega) (by omega)
  obtain ⟨_, _, e, _, _, hcl⟩ := hrd
  injection e with ea eb ec
  subst ea ec
  obtain ⟨g0, o0, e, r1⟩ := hcl.resolve_left (fun e => by rw [e] at ht; cases ht)
  injection e with e
  injection e with e e'
  subst e e'
  obtain ⟨a2, c2, he, l2, m2, k2⟩ := hq
  unfold maxLen at m2
  dsimp only [SlV.v] at he
  injection he with he1 he2 he3
  subst he1 he2 he3
  have hal := askP_len op.toNat
  by_cases hs : status = 0
  · rw [if_pos hs]
    unfold rpFs
    (refine Zx rfl rfl rfl rfl rfl ?_; refine hc_seq ?_; refine Zw rfl rfl rfl rfl rfl ?_; refine hx_plain rfl ?_; refine h_nilCheck rfl rfl rfl rfl ?_; refine Zf rfl rfl rfl rfl rfl ?_; refine Zh rfl rfl rfl rfl rfl rfl rfl ?_; refine Zc rfl rfl rfl rfl rfl rfl rfl ?_; refine Zt ?_; refine hc_condDF rfl (by omega) ?_; refine hc_skip ?_; refine hq_then ?_; refine hc_seq ?_; refine hc_draw0 (by kernel_rfl) (by kernel_rfl) ?_; (iterate 2 (refine Zm rfl rfl rfl rfl rfl ?_; refine hx_plain rfl ?_; refine h_nilCheck rfl rfl rfl rfl ?_; refine Zf rfl rfl rfl rfl rfl ?_)); refine Zh rfl rfl rfl rfl rfl rfl rfl ?_; (iterate 2 (refine hx_plain rfl ?_; refine h_build rfl inferInstance rfl rfl rfl rfl ?_; refine hx_plain rfl ?_; refine h_makeInterface rfl rfl UC.out rfl rfl rfl ?_; refine Zm rfl rfl rfl rfl rfl ?_; refine hx_plain rfl ?_; refine h_nilCheck rfl rfl rfl rfl ?_; refine Zf rfl rfl rfl rfl rfl ?_)); refine Zm rfl rfl rfl rfl rfl ?_; refine hx_plain rfl ?_; refine h_build rfl inferInstance rfl rfl rfl rfl ?_; refine hx_plain rfl ?_; refine h_makeInterface rfl rfl UC.out rfl rfl rfl ?_; (iterate 2 (refine Zm rfl rfl rfl rfl rfl ?_; refine hx_plain rfl ?_; refine h_nilCheck rfl rfl rfl rfl ?_; refine Zf rfl rfl rfl rfl rfl ?_)); refine hx_plain rfl ?_; refine h_build rfl inferInstance rfl rfl rfl rfl ?_; refine hx_plain rfl ?_; refine h_makeInterface rfl rfl UC.out rfl rfl rfl ?_; refine hx_plain rfl ?_)
    refine h_buildP (vs := [(8, rpV p ov (fldP op 8)), (9, rpV p ov (fldP op 9)), (10, rpV p ov (fldP op 10)), (11, rpV p ov (fldP op 11))]) (cells := #[.nilIface, .nilIface, .nilIface, .nilIface, .nilIface, .nilIface, .nilIface, .nilIface, rpV p ov (fldP op 8), rpV p ov (fldP op 9), rpV p ov (fldP op 10), rpV p ov (fldP op 11)]) rfl UC.out IC.size IC.zero rfl (by kernel_rfl) rfl rfl ?_
    (refine hx_plain rfl ?_; (refine h_alloc rfl rfl IC.zero rfl rfl rfl (fun _ => ?_)); refine hx_plain rfl ?_)
    refine h_storeAll (vs := [.nilIface, .nilIface, .nilIface, .nilIface, .nilIface, .nilIface, .nilIface, .nilIface, rpV p ov (fldP op 8), rpV p ov (fldP op 9), rpV p ov (fldP op 10), rpV p ov (fldP op 11)]) rfl rfl rfl rfl rfl rfl IC.size .head (by kernel_rfl) rfl rfl (List.all_eq_true.1 rfl) ?_
    (refine Zt ?_; refine Zx rfl rfl rfl rfl rfl ?_; refine hc_seq ?_; refine Zw rfl rfl rfl rfl rfl ?_; refine hx_plain rfl ?_; refine h_nilCheck rfl rfl rfl rfl ?_; refine Zf rfl rfl rfl rfl rfl ?_; refine hx_plain rfl ?_; refine h_load rfl rfl UC.out rfl (.tail .head) rfl rfl rfl ?_; refine hx_plain rfl ?_; refine h_indexAddrA rfl rfl rfl UC.out IC.size (by omega) rfl rfl ?_; refine hx_plain rfl ?_; refine h_fieldAddr rfl rfl FC.out rfl rfl ?_; refine hx_plain rfl ?_; refine h_readB hB hF rfl r1 rfl UC.out rfl (by with_reducible assumption) rfl rfl rfl ?_; refine hx_plain rfl ?_; refine h_len_slice rfl rfl rfl UC.out rfl rfl rfl ?_; refine Zm rfl rfl rfl rfl rfl ?_; refine Zt ?_; refine hc_block ?_)
    rename_i bx
    refine hc_cut (id := 0) (Y := Value) (fun v => [(6, v)]) (fun v => [RowV (rpE p ov) 110 v ((askP op.toNat).map fun k => fldP op k.toNat), rpB p ⟨client, seq, epoch, op, status, aid, akind, asize, achange, ⟨da, dn, dc⟩, ⟨la, ln, lc⟩, more⟩]) (fun _ => True) ?_ ?_
    · refine hc_loop (X := Nat × Value) (fun x => [(5, ptrV bx 0), (6, x.2), (49, .slice pa (askP op.toNat).length pc), (50, .int .i64 ((askP op.toNat).length : Int)), (51, .int .i64 (x.1 : Int))]) (fun x => [RowV (rpE p ov) 110 x.2 (((askP op.toNat).map fun k => fldP op k.toNat).take x.1), Blk bx (.cells #[.nilIface, .nilIface, .nilIface, .nilIface, .nilIface, .nilIface, .nilIface, .nilIface, rpV p ov (fldP op 8), rpV p ov (fldP op 9), rpV p ov (fldP op 10), rpV p ov (fldP op 11)] 153 (0, 0)), rpB p ⟨client, seq, epoch, op, status, aid, akind, asize, achange, ⟨da, dn, dc⟩, ⟨la, ln, lc⟩, more⟩]) (fun x => x.1 ≤ (askP op.toNat).length) (fun x => (askP op.toNat).length - x.1) (0, .slice none 0 0) (.cons rfl (.cons rfl (.cons rfl (.cons rfl (.cons rfl .nil))))) (Nat.zero_le _) (fun _ h => h.rowV_nil) ?_
      rintro ⟨i, ou⟩ hi
      dsimp only at hi ⊢
      by_cases hlt : i < (askP op.toNat).length
      · obtain ⟨g2, o2, rfl, r2⟩ := k2.resolve_left (fun e => by rw [e] at hlt; exact absurd hlt (Nat.not_lt_zero _))
        obtain ⟨k, hk⟩ : ∃ k, (askP op.toNat)[i]? = some k := ⟨_, List.getElem?_eq_getElem hlt⟩
        have e2 : (askP op.toNat)[((i : Nat) : Int).toNat]? = some k := hk
        have hk8 := askP_lt (List.mem_iff_getElem?.2 ⟨i, hk⟩)
        have hfs : (((askP op.toNat).map fun k => fldP op k.toNat).take (i + 1)) = ((askP op.toNat).map fun k => fldP op k.toNat).take i ++ [fldP op k.toNat] := by
          rw [List.take_add_one, List.getElem?_map, hk]
          rfl
        have hll : (((askP op.toNat).map fun k => fldP op k.toNat).take i).length ≤ 2 := by rw [List.length_take]; omega
        obtain ⟨t, v0, hiv⟩ := rpV_if p ov (fldP op k.toNat)
        (refine Zl rfl ?_; refine h_cmp rfl rfl rfl rfl rfl rfl ?_; refine Zt ?_; refine hc_seq ?_; refine hc_condDT rfl (by omega) ?_; refine hc_skip ?_; refine hq_then ?_; refine hc_seq ?_; refine hc_block ?_; refine Zl rfl ?_; refine h_indexAddr rfl rfl rfl UC.out IC.size (by omega) (by omega) rfl rfl ?_; refine hx_plain rfl ?_; refine h_readB1 hB hF rfl r2 rfl UC.out rfl (by with_reducible assumption) rfl rfl rfl ?_; refine Zn rfl rfl rfl rfl rfl ?_; refine hc_lex ?_; (iterate 2 (refine Zm rfl rfl rfl rfl rfl ?_)); refine hx_plain rfl ?_; refine h_indexAddrA rfl rfl rfl UC.out IC.size (by omega) rfl rfl ?_; refine hx_plain rfl ?_)
        refine h_load (v := .iface t v0) rfl rfl UC.out rfl (.tail .head) ?_ rfl rfl ?_
        · rw [← hiv, Nat.zero_add, Nat.mul_one]
          exact fldP_at p ov op (by omega)
        (refine hx_plain rfl ?_; (refine h_buildSlice rfl rfl rfl UC.out IC.size IC.zero rfl rfl (by intro v hv; simp at hv; first | (subst hv; rfl) | (rcases hv with rfl | rfl <;> rfl) | (rcases hv with rfl | rfl | rfl <;> rfl)) (by omega) rfl rfl (fun _ => ?_)); refine hx_plain rfl ?_)
        refine h_append (m := 1) (E := rpE p ov) (T := 110) (xs := ((askP op.toNat).map fun k => fldP op k.toNat).take i) (ys := [fldP op k.toNat]) rfl rfl rfl rfl rfl UC.out IC.out rfl (.cons (.tail .head) (.cons .head .nil)) rfl (rpE_row hiv) (by unfold maxLen; omega) (by omega) rfl rfl (fun ov' _ => ?_)
        (refine Za rfl rfl rfl rfl rfl ?_; refine hx_nil ?_; refine hq_norm_block ?_; refine hq_then ?_; refine hc_lex ?_; refine hx_plain rfl ?_; refine h_arithI rfl rfl rfl rfl (by omega) rfl rfl ?_; refine Zm rfl rfl rfl rfl rfl ?_; refine hx_nil ?_)
        refine hq_round (i + 1, ov') (by show _ - (i + 1) < _ - i; omega) (by show i + 1 ≤ _; omega) (.cons rfl (.cons rfl (.cons rfl (.cons rfl (.cons rfl .nil))))) (fun _ h => ?_)
        rw [hfs]
        exact h.sub (.cons .head (.cons (.tail .head) (.cons (.tail .head) .nil)))
      · (refine Zl rfl ?_; refine h_cmp rfl rfl rfl rfl rfl rfl ?_; refine Zt ?_; refine hc_seq ?_; refine hc_condDF rfl (by omega) ?_; refine hc_exit ?_; (iterate 2 (refine hq_exit_then ?_)))
        refine hq_cut ou trivial (.cons rfl .nil) (fun _ h => ?_)
        rw [List.take_of_length_le (by rw [List.length_map]; omega)] at h
        exact h.sub (.cons .head (.cons (.tail .head) .nil))
    rintro v _
    (refine hq_exit_block ?_; refine hq_then ?_; refine Zw rfl rfl rfl rfl rfl ?_; refine Zn rfl rfl rfl rfl rfl ?_; refine hc_ret ?_)
    exact hq_ret1 (.inr rfl) rfl rfl rfl (fun _ h => h)
  · rw [if_neg hs]
    (refine Zx rfl rfl rfl rfl rfl ?_; refine hc_seq ?_; refine Zw rfl rfl rfl rfl rfl ?_; refine hx_plain rfl ?_; refine h_nilCheck rfl rfl rfl rfl ?_; refine Zf rfl rfl rfl rfl rfl ?_; refine Zh rfl rfl rfl rfl rfl rfl rfl ?_; refine Zc rfl rfl rfl rfl rfl rfl rfl ?_; refine Zt ?_; refine hc_condDT rfl (by omega) ?_; refine Zx rfl rfl rfl rfl rfl ?_; refine hc_ret ?_; refine hq_ret_then ?_)
    exact hq_ret1 (.inr rfl) rfl rfl rfl (fun _ h => h.rowV_nil)
end Go.Proofs.YtfolhmlldoepfaaGreatDoor
namespace Go.Proofs.YtfolhmlldoepfaaGreatDoor
open Go Go.Proofs Go.RowKit
set_option maxRecDepth 4000
instance qcAttr : QC Tryz.prog 27 4 := QC.flat (by kernel_rfl) (Tryz.underlying27.trans (by kernel_rfl)) (by kernel_rfl) rfl ⟨by decide, rfl, Tryz.underlying3, by decide, rfl, Tryz.underlying3, by decide, rfl, Tryz.underlying3, by decide, rfl, Tryz.underlying3, trivial⟩
def clrP' (r : RepV) : RepV := clrAllP r (if r.status = 0 then rpFs r.op else [])
def RepV.zeroB (r : RepV) : Bool := decide (r.aid = 0 ∧ r.akind = 0 ∧ r.asize = 0 ∧ r.achange = 0) && decide (r.dv.len = 0) && decide (r.lv.len = 0) && !r.more
def RepV.good (r : RepV) (es : List EntV) : Bool := ((if r.status = 0 then rpFs r.op else []).all fun f => f.ok r es) && (clrP' r).zeroB
/-- How a reply is judged. -/
def RepV.chk (r : RepV) (es : List EntV) : Int := if r.head = 0 then (if r.good es then 0 else 46) else r.head
theorem headP_op {r : RepV} (h : r.head = 0) : 1 ≤ r.op ∧ r.op ≤ 10 := by
  unfold RepV.head at h
  split at h
  · cases h
  · split at h
    · cases h
    · split at h
      · cases h
      · split at h
        · cases h
        · omega
set_option maxHeartbeats 8000000 in
theorem checkReply_spec {w1 : World} (hk : AskF w1) (r : RepV) {es : List EntV} (hl : Rd entE w1 r.lv.v es) : SpecB Tryz.prog w1 20 [.agg r.cs] [] (fun u M => u = .int .i64 (r.chk es) ∧ M = []) := by
  refine specB_of Tryz.func20 rfl rfl (Nat.le_of_ble_eq_true rfl) (fun w F hB hF => ?_)
  obtain ⟨r0, hr0⟩ : ∃ r0, r0 = r := ⟨_, rfl⟩
  rw [← hr0] at hl
  obtain ⟨client, seq, epoch, op, status, aid, akind, asize, achange, ⟨da, dn, dc⟩, ⟨la, ln, lc⟩, more⟩ := r
  dsimp only [RepV.cs, SlV.v]
  (refine Zl rfl ?_; (refine h_box rfl rfl rfl rfl rfl rfl (fun _ => ?_)); refine Zn rfl rfl rfl rfl rfl ?_; refine hc_seq ?_; refine Zl rfl ?_)
  refine h_loadP (cs' := #[.int .i64 client, .int .i64 seq, .int .i64 epoch, .int .i64 op, .int .i64 status, .int .i64 aid, .int .i64 akind, .int .i64 asize, .int .i64 achange, .slice da dn dc, .slice la ln lc, .bool more]) rfl rfl UC.out rfl IC.size .head rfl (by kernel_rfl) rfl rfl ?_
  (refine hx_plain rfl ?_)
  refine h_callR rfl rfl rfl rfl rfl rfl EC.out ((headOfReply_spec ⟨client, seq, epoch, op, status, aid, akind, asize, achange, ⟨da, dn, dc⟩, ⟨la, ln, lc⟩, more⟩).reads _) ?_
  rw [← hr0]
  by_cases hh : r0.head = 0
  · rw [hh]
    (refine Zn rfl rfl rfl rfl rfl ?_; refine Zw rfl rfl rfl rfl rfl ?_; refine Zc rfl rfl rfl rfl rfl rfl rfl ?_; refine Zt ?_; refine hc_condF rfl ?_; refine hc_skip ?_; refine hq_then ?_; refine Zl rfl ?_; (refine h_alloc rfl rfl IC.zero rfl rfl rfl (fun _ => ?_)); refine Zt ?_; refine Zl rfl ?_)
    rename_i bx bo
    refine hx1_conv rfl rfl (C' := St w F [rpB bx r0, Blk bo (.cells #[.bool false] 4 (0, 0))]) (fun _ h => by rw [hr0]; exact h.perm (List.Perm.swap _ _ _)) ?_
    refine h_callB hB hF rfl rfl rfl rfl rfl rfl rfl rfl EC.out (.cons .head .nil) (ofReply_spec hk bx bo r0 (headP_op hh)) ?_
    rintro u M rfl
    (refine hx_plain rfl ?_)
    refine h_callB hB hF rfl rfl rfl rfl rfl rfl rfl rfl EC.out (.cons .head (.cons .head .nil)) (judgedP_spec bx bo r0 hl _ u) ?_
    rintro u2 M ⟨rfl, rfl⟩
    have hchk : r0.chk es = if (((if r0.status = 0 then rpFs r0.op else []).all fun f => f.ok r0 es) && (clrAllP r0 (if r0.status = 0 then rpFs r0.op else [])).zeroB) then 0 else 46 := by unfold RepV.chk; rw [if_pos hh]; rfl
    rw [hchk]
    obtain ⟨b, hb⟩ : ∃ b, ((if r0.status = 0 then rpFs r0.op else []).all fun f => f.ok r0 es) = b := ⟨_, rfl⟩
    obtain ⟨r1, hr1⟩ : ∃ r1, clrAllP r0 (if r0.status = 0 then rpFs r0.op else []) = r1 := ⟨_, rfl⟩
    rw [hb, hr1]
    clear hchk hb hr1 hr0 hh
    obtain ⟨client, seq, epoch, op, status, aid, akind, asize, achange, ⟨da, dn, dc⟩, ⟨la, ln, lc⟩, more⟩ := r1
    unfold rpB
    dsimp only [RepV.cs, SlV.v]
    cases b
    · (refine Zn rfl rfl rfl rfl rfl ?_; refine hc_seq ?_; refine Zw rfl rfl rfl rfl rfl ?_; refine hx_plain rfl ?_; refine h_not rfl rfl rfl rfl ?_; (iterate 3 (refine Zm rfl rfl rfl rfl rfl ?_; (iterate 4 (refine hx_skip rfl rfl rfl rfl rfl rfl ?_)); refine Zq rfl rfl rfl rfl rfl rfl ?_)); refine Zm rfl rfl rfl rfl rfl ?_; (iterate 2 (refine hx_skip rfl rfl rfl rfl rfl rfl ?_)); refine Zq rfl rfl rfl rfl rfl rfl ?_; refine Zt ?_; refine hc_condT rfl ?_; refine Zx rfl rfl rfl rfl rfl ?_; refine hc_ret ?_; refine hq_ret_then ?_)
      exact hq_ret1 (.inr rfl) rfl rfl ⟨rfl, rfl⟩ (fun _ h => h.emp)
    · (refine Zn rfl rfl rfl rfl rfl ?_; refine hc_seq ?_; refine Zw rfl rfl rfl rfl rfl ?_; refine hx_plain rfl ?_; refine h_not rfl rfl rfl rfl ?_; refine Zm rfl rfl rfl rfl rfl ?_; refine hx_yes rfl rfl rfl ?_; refine h_fieldAddr0 rfl rfl FC.out rfl rfl ?_; refine hx_yes rfl rfl rfl ?_)
      focus
        refine h_loadP (cs' := #[.int .i64 aid, .int .i64 akind, .int .i64 asize, .int .i64 achange]) rfl rfl UC.out rfl IC.size (.tail .head) rfl (by kernel_rfl) rfl rfl ?_
        (refine hx_yes rfl rfl rfl ?_; refine h_build rfl inferInstance rfl rfl rfl rfl ?_; refine hx_yes rfl rfl rfl ?_)
        refine h_eqS [aid, akind, asize, achange] [0, 0, 0, 0] rfl rfl rfl rfl rfl qcAttr rfl rfl rfl rfl rfl ?_
        (refine Zp rfl rfl rfl rfl rfl rfl ?_; refine Zm rfl rfl rfl rfl rfl ?_; refine hx_gcaseD rfl rfl rfl (fun hc => ?_) (fun hc => ?_); (iterate 2 ((iterate 4 (refine hx_skip rfl rfl rfl rfl rfl rfl ?_)); refine Zq rfl rfl rfl rfl rfl rfl ?_; refine Zm rfl rfl rfl rfl rfl ?_)); (iterate 2 (refine hx_skip rfl rfl rfl rfl rfl rfl ?_)); refine Zq rfl rfl rfl rfl rfl rfl ?_; refine Zt ?_; refine hc_condT rfl ?_; refine Zx rfl rfl rfl rfl rfl ?_; refine hc_ret ?_; refine hq_ret_then ?_; rotate_left; refine hx_yes rfl rfl rfl ?_; refine h_fieldAddr0 rfl rfl FC.out rfl rfl ?_; refine hx_yes rfl rfl rfl ?_; refine h_load rfl rfl UC.out rfl (.tail .head) rfl rfl rfl ?_; refine hx_yes rfl rfl rfl ?_; refine h_len_slice rfl rfl rfl UC.out rfl rfl rfl ?_; refine hx_yes rfl rfl rfl ?_; refine h_cmp rfl rfl rfl rfl rfl rfl ?_; refine Zp rfl rfl rfl rfl rfl rfl ?_; refine Zm rfl rfl rfl rfl rfl ?_; refine hx_gcaseD rfl rfl rfl (fun hc => ?_) (fun hc => ?_); (iterate 4 (refine hx_skip rfl rfl rfl rfl rfl rfl ?_)); refine Zq rfl rfl rfl rfl rfl rfl ?_; refine Zm rfl rfl rfl rfl rfl ?_; (iterate 2 (refine hx_skip rfl rfl rfl rfl rfl rfl ?_)); refine Zq rfl rfl rfl rfl rfl rfl ?_; refine Zt ?_; refine hc_condT rfl ?_; refine Zx rfl rfl rfl rfl rfl ?_; refine hc_ret ?_; refine hq_ret_then ?_; rotate_left; refine hx_yes rfl rfl rfl ?_; refine h_fieldAddr0 rfl rfl FC.out rfl rfl ?_; refine hx_yes rfl rfl rfl ?_; refine h_load rfl rfl UC.out rfl (.tail .head) rfl rfl rfl ?_; refine hx_yes rfl rfl rfl ?_; refine h_len_slice rfl rfl rfl UC.out rfl rfl rfl ?_; refine hx_yes rfl rfl rfl ?_; refine h_cmp rfl rfl rfl rfl rfl rfl ?_; refine Zp rfl rfl rfl rfl rfl rfl ?_; refine Zm rfl rfl rfl rfl rfl ?_; refine hx_gcaseD rfl rfl rfl (fun hc => ?_) (fun hc => ?_); (iterate 2 (refine hx_skip rfl rfl rfl rfl rfl rfl ?_)); refine Zq rfl rfl rfl rfl rfl rfl ?_; refine Zt ?_; refine hc_condT rfl ?_; refine Zx rfl rfl rfl rfl rfl ?_; refine hc_ret ?_; refine hq_ret_then ?_; rotate_left; refine hx_yes rfl rfl rfl ?_; refine h_fieldAddr0 rfl rfl FC.out rfl rfl ?_; refine hx_yes rfl rfl rfl ?_; refine h_load rfl rfl UC.out rfl (.tail .head) rfl rfl rfl ?_; refine Zp rfl rfl rfl rfl rfl rfl ?_; refine Zt ?_; refine hc_cond rfl (fun hc => ?_) (fun hc => ?_); refine Zx rfl rfl rfl rfl rfl ?_; refine hc_ret ?_; refine hq_ret_then ?_; rotate_left; refine hc_skip ?_; refine hq_then ?_; refine Zx rfl rfl rfl rfl rfl ?_; refine hc_ret ?_; rotate_left)
      rotate_left
      all_goals
        refine hq_ret1 (.inr rfl) rfl rfl ⟨congrArg (Value.int .i64) ?_, rfl⟩ (fun _ h => h.emp)
        unfold RepV.zeroB
        dsimp only
        first | (simp_all; done) | (have hd0 : dn ≠ 0 := by omega
                                    simp_all; done) | (have hd0 : dn = 0 := by omega
                                                       have hl0 : ln ≠ 0 := by omega
                                                       simp_all; done) | (have hd0 : dn = 0 := by omega
                                                                          have hl0 : ln = 0 := by omega
                                                                          simp_all; done)
  · (refine Zn rfl rfl rfl rfl rfl ?_; refine Zw rfl rfl rfl rfl rfl ?_; refine Zc rfl rfl rfl rfl rfl rfl rfl ?_; refine Zt ?_; refine hc_condDT rfl (by omega) ?_; refine Zw rfl rfl rfl rfl rfl ?_; refine Zn rfl rfl rfl rfl rfl ?_; refine hc_ret ?_; refine hq_ret_then ?_)
    exact hq_ret1 (.inr rfl) rfl rfl ⟨by unfold RepV.chk; rw [if_neg hh], rfl⟩ (fun _ h => h.emp)
end Go.Proofs.YtfolhmlldoepfaaGreatDoor
