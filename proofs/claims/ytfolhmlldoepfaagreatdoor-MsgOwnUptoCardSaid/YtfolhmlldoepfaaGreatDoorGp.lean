import Derived.Test.YtfolhmlldoepfaaGreatDoorGo
import Derived.Test.YtfolhmlldoepfaaGreatDoorGr
set_option linter.unusedVariables false
set_option linter.unusedSimpArgs false
namespace Go.Proofs.YtfolhmlldoepfaaGreatDoor
open Go Go.Proofs Go.RowKit
set_option maxRecDepth 4000
theorem toList_beq (a b : ByteArray) : (a.toList == b.toList) = decide (a = b) := by
  by_cases h : a = b
  · rw [h, decide_eq_true rfl]; exact beq_self_eq_true _
  · rw [decide_eq_false h]
    exact beq_eq_false_iff_ne.2 (fun e => h (toList_inj e))
deriving instance DecidableEq for EntV
def sameQ (a b : ReqV) (da db : List Int) : Bool := decide (da = db ∧ (a.client = b.client ∧ a.seq = b.seq ∧ a.ack = b.ack ∧ a.epoch = b.epoch ∧ a.op = b.op) ∧ a.id = b.id ∧ a.id2 = b.id2 ∧ a.off = b.off ∧ a.len = b.len ∧ a.path = b.path ∧ a.name = b.name ∧ a.name2 = b.name2)
def sameP (a b : RepV) (da db : List Int) (ea eb : List EntV) : Bool := decide (da = db ∧ ea = eb ∧ (a.aid = b.aid ∧ a.akind = b.akind ∧ a.asize = b.asize ∧ a.achange = b.achange) ∧ a.client = b.client ∧ a.seq = b.seq ∧ a.epoch = b.epoch ∧ a.op = b.op ∧ a.status = b.status ∧ a.more = b.more)
theorem sameAttr (a1 a2 a3 a4 b1 b2 b3 b4 : Int) : Spec0 Tryz.prog 63 [.agg #[.int .i64 a1, .int .i64 a2, .int .i64 a3, .int .i64 a4], .agg #[.int .i64 b1, .int .i64 b2, .int .i64 b3, .int .i64 b4]] (.bool (decide (a1 = b1 ∧ a2 = b2 ∧ a3 = b3 ∧ a4 = b4))) := by
  refine spec_of Tryz.func63 rfl rfl (Nat.le_of_ble_eq_true rfl) (fun w F => ?_)
  (refine Zl rfl ?_; (refine h_box rfl rfl rfl rfl rfl rfl (fun _ => ?_)); refine hx_plain rfl ?_; (refine h_box rfl rfl rfl rfl rfl rfl (fun _ => ?_)); refine Zn rfl rfl rfl rfl rfl ?_; refine Zl rfl ?_; refine h_fieldAddr0 rfl rfl FC.out rfl rfl ?_; refine hx_plain rfl ?_; refine h_load rfl rfl UC.out rfl (.tail .head) rfl rfl rfl ?_; refine Zf rfl rfl rfl rfl rfl ?_; refine Zh rfl rfl rfl rfl rfl rfl rfl ?_; refine Zc rfl rfl rfl rfl rfl rfl rfl ?_; refine Zm rfl rfl rfl rfl rfl ?_; refine hx_gcaseD rfl rfl rfl (fun hc => ?_) (fun hc => ?_); refine hx_yes rfl rfl rfl ?_; refine h_fieldAddr0 rfl rfl FC.out rfl rfl ?_; refine hx_yes rfl rfl rfl ?_; refine h_load rfl rfl UC.out rfl (.tail .head) rfl rfl rfl ?_; refine hx_yes rfl rfl rfl ?_; refine h_fieldAddr0 rfl rfl FC.out rfl rfl ?_; refine hx_yes rfl rfl rfl ?_; refine h_load rfl rfl UC.out rfl .head rfl rfl rfl ?_; refine hx_yes rfl rfl rfl ?_; refine h_cmp rfl rfl rfl rfl rfl rfl ?_; refine Zq rfl rfl rfl rfl rfl rfl ?_; refine Zm rfl rfl rfl rfl rfl ?_; refine hx_gcaseD rfl rfl rfl (fun hc => ?_) (fun hc => ?_); refine hx_yes rfl rfl rfl ?_; refine h_fieldAddr0 rfl rfl FC.out rfl rfl ?_; refine hx_yes rfl rfl rfl ?_; refine h_load rfl rfl UC.out rfl (.tail .head) rfl rfl rfl ?_; refine hx_yes rfl rfl rfl ?_; refine h_fieldAddr0 rfl rfl FC.out rfl rfl ?_; refine hx_yes rfl rfl rfl ?_; refine h_load rfl rfl UC.out rfl .head rfl rfl rfl ?_; refine hx_yes rfl rfl rfl ?_; refine h_cmp rfl rfl rfl rfl rfl rfl ?_; refine Zq rfl rfl rfl rfl rfl rfl ?_; refine Zm rfl rfl rfl rfl rfl ?_; refine hx_gcaseD rfl rfl rfl (fun hc => ?_) (fun hc => ?_); refine hx_yes rfl rfl rfl ?_; refine h_fieldAddr0 rfl rfl FC.out rfl rfl ?_; refine hx_yes rfl rfl rfl ?_; refine h_load rfl rfl UC.out rfl (.tail .head) rfl rfl rfl ?_; refine hx_yes rfl rfl rfl ?_; refine h_fieldAddr0 rfl rfl FC.out rfl rfl ?_; refine hx_yes rfl rfl rfl ?_; refine h_load rfl rfl UC.out rfl .head rfl rfl rfl ?_; refine hx_yes rfl rfl rfl ?_; refine h_cmp rfl rfl rfl rfl rfl rfl ?_; refine Zq rfl rfl rfl rfl rfl rfl ?_; (iterate 2 (refine Zn rfl rfl rfl rfl rfl ?_; refine hc_ret ?_; rotate_left; (iterate 5 (refine hx_skip rfl rfl rfl rfl rfl rfl ?_)); refine Zp rfl rfl rfl rfl rfl rfl ?_)); refine Zm rfl rfl rfl rfl rfl ?_; (iterate 5 (refine hx_skip rfl rfl rfl rfl rfl rfl ?_)); refine Zp rfl rfl rfl rfl rfl rfl ?_; refine Zn rfl rfl rfl rfl rfl ?_; refine hc_ret ?_; rotate_left; (iterate 2 ((iterate 5 (refine hx_skip rfl rfl rfl rfl rfl rfl ?_)); refine Zp rfl rfl rfl rfl rfl rfl ?_; refine Zm rfl rfl rfl rfl rfl ?_)); (iterate 5 (refine hx_skip rfl rfl rfl rfl rfl rfl ?_)); refine Zp rfl rfl rfl rfl rfl rfl ?_; refine Zn rfl rfl rfl rfl rfl ?_; refine hc_ret ?_; rotate_left)
  all_goals (refine hq_ret1 (.inr rfl) rfl rfl ⟨congrArg Value.bool ?_, rfl⟩ (fun _ h => h.emp); first | (rw [decide_eq_decide]; simp_all; done) | (simp_all; done))
theorem num_spec (e : Int) : Spec0 Tryz.prog 64 [.int .i64 e] (.int .i64 e) := by
  refine spec_of Tryz.func64 rfl rfl (Nat.le_of_ble_eq_true rfl) (fun w F => ?_)
  (refine Zx rfl rfl rfl rfl rfl ?_; refine Zw rfl rfl rfl rfl rfl ?_; refine Zn rfl rfl rfl rfl rfl ?_; refine hc_ret ?_)
  exact hq_ret1 (.inr rfl) rfl rfl ⟨rfl, rfl⟩ (fun _ h => h.emp)
theorem lnum_spec (e : Int) : Spec0 Tryz.prog 18 [.int .i64 e] (.int .i64 e) := by
  refine spec_of Tryz.func18 rfl rfl (Nat.le_of_ble_eq_true rfl) (fun w F => ?_)
  (refine Zx rfl rfl rfl rfl rfl ?_; refine Zw rfl rfl rfl rfl rfl ?_; refine Zn rfl rfl rfl rfl rfl ?_; refine hc_ret ?_)
  exact hq_ret1 (.inr rfl) rfl rfl ⟨rfl, rfl⟩ (fun _ h => h.emp)
set_option maxHeartbeats 4000000 in
theorem sameRequest {a b : ReqV} {da db : List Int} {w : World} (h1 : Rd byteE w a.dv.v da) (h2 : Rd byteE w b.dv.v db) : Calls Tryz.prog 32 [.agg a.cs, .agg b.cs].toArray w (fun en w' => en = .returned (.bool (sameQ a b da db)) ∧ But w w' nowhere) := by
  obtain ⟨client, seq, ack, epoch, op, id, id2, off, len, path, name, name2, ⟨ad, an, ac⟩⟩ := a
  obtain ⟨client', seq', ack', epoch', op', id', id2', off', len', path', name', name2', ⟨bd, bn, bc⟩⟩ := b
  dsimp only [ReqV.cs, SlV.v] at h1 h2 ⊢
  unfold sameQ
  dsimp only
  refine reads_of Tryz.func32 rfl rfl (Nat.le_of_ble_eq_true rfl) ?_
  (refine Zl rfl ?_; (refine h_box rfl rfl rfl rfl rfl rfl (fun _ => ?_)); refine hx_plain rfl ?_; (refine h_box rfl rfl rfl rfl rfl rfl (fun _ => ?_)); refine Zn rfl rfl rfl rfl rfl ?_; refine Zl rfl ?_; refine h_fieldAddr0 rfl rfl FC.out rfl rfl ?_; refine hx_plain rfl ?_; refine h_load rfl rfl UC.out rfl (.tail .head) rfl rfl rfl ?_; refine Zf rfl rfl rfl rfl rfl ?_; refine Zh rfl rfl rfl rfl rfl rfl rfl ?_; refine hx_plain rfl ?_)
  refine h_callRd rfl rfl rfl rfl rfl rfl EC.out (fun w' h => sameBytes (h.rd h1) (h.rd h2)) ?_
  by_cases q1 : da = db
  · rw [decide_eq_true q1]
    (refine Zn rfl rfl rfl rfl rfl ?_; refine Zl rfl ?_; refine h_fieldAddr0 rfl rfl FC.out rfl rfl ?_; refine hx_plain rfl ?_; refine h_load rfl rfl UC.out rfl (.tail .head) rfl rfl rfl ?_; refine Zf rfl rfl rfl rfl rfl ?_; refine Zh rfl rfl rfl rfl rfl rfl rfl ?_; refine Zc rfl rfl rfl rfl rfl rfl rfl ?_; refine Zm rfl rfl rfl rfl rfl ?_; refine hx_gcaseD rfl rfl rfl (fun hc => ?_) (fun hc => ?_); refine hx_yes rfl rfl rfl ?_; refine h_fieldAddr0 rfl rfl FC.out rfl rfl ?_; refine hx_yes rfl rfl rfl ?_; refine h_load rfl rfl UC.out rfl (.tail .head) rfl rfl rfl ?_; refine hx_yes rfl rfl rfl ?_; refine h_fieldAddr0 rfl rfl FC.out rfl rfl ?_; refine hx_yes rfl rfl rfl ?_; refine h_load rfl rfl UC.out rfl .head rfl rfl rfl ?_; refine hx_yes rfl rfl rfl ?_; refine h_cmp rfl rfl rfl rfl rfl rfl ?_; refine Zq rfl rfl rfl rfl rfl rfl ?_; refine Zm rfl rfl rfl rfl rfl ?_; refine hx_gcaseD rfl rfl rfl (fun hc => ?_) (fun hc => ?_); refine hx_yes rfl rfl rfl ?_; refine h_fieldAddr0 rfl rfl FC.out rfl rfl ?_; refine hx_yes rfl rfl rfl ?_; refine h_load rfl rfl UC.out rfl (.tail .head) rfl rfl rfl ?_; refine hx_yes rfl rfl rfl ?_; refine h_fieldAddr0 rfl rfl FC.out rfl rfl ?_; refine hx_yes rfl rfl rfl ?_; refine h_load rfl rfl UC.out rfl .head rfl rfl rfl ?_; refine hx_yes rfl rfl rfl ?_; refine h_cmp rfl rfl rfl rfl rfl rfl ?_; refine Zq rfl rfl rfl rfl rfl rfl ?_; refine Zm rfl rfl rfl rfl rfl ?_; refine hx_gcaseD rfl rfl rfl (fun hc => ?_) (fun hc => ?_); refine hx_yes rfl rfl rfl ?_; refine h_fieldAddr0 rfl rfl FC.out rfl rfl ?_; refine hx_yes rfl rfl rfl ?_; refine h_load rfl rfl UC.out rfl (.tail .head) rfl rfl rfl ?_; refine hx_yes rfl rfl rfl ?_; refine h_fieldAddr0 rfl rfl FC.out rfl rfl ?_; refine hx_yes rfl rfl rfl ?_; refine h_load rfl rfl UC.out rfl .head rfl rfl rfl ?_; refine hx_yes rfl rfl rfl ?_; refine h_cmp rfl rfl rfl rfl rfl rfl ?_; refine Zq rfl rfl rfl rfl rfl rfl ?_; refine Zm rfl rfl rfl rfl rfl ?_; refine hx_gcaseD rfl rfl rfl (fun hc => ?_) (fun hc => ?_); refine hx_yes rfl rfl rfl ?_; refine h_fieldAddr0 rfl rfl FC.out rfl rfl ?_; refine hx_yes rfl rfl rfl ?_; refine h_load rfl rfl UC.out rfl (.tail .head) rfl rfl rfl ?_; refine hx_yes rfl rfl rfl ?_; refine h_fieldAddr0 rfl rfl FC.out rfl rfl ?_; refine hx_yes rfl rfl rfl ?_; refine h_load rfl rfl UC.out rfl .head rfl rfl rfl ?_; refine hx_yes rfl rfl rfl ?_; refine h_cmp rfl rfl rfl rfl rfl rfl ?_; refine Zq rfl rfl rfl rfl rfl rfl ?_; refine Zn rfl rfl rfl rfl rfl ?_; refine Zw rfl rfl rfl rfl rfl ?_; refine Zm rfl rfl rfl rfl rfl ?_; refine hx_yes rfl rfl rfl ?_; refine h_move rfl rfl rfl rfl ?_; refine Zq rfl rfl rfl rfl rfl rfl ?_; refine Zm rfl rfl rfl rfl rfl ?_; refine hx_gcaseD rfl rfl rfl (fun hc => ?_) (fun hc => ?_); refine hx_yes rfl rfl rfl ?_; refine h_fieldAddr0 rfl rfl FC.out rfl rfl ?_; refine hx_yes rfl rfl rfl ?_; refine h_load rfl rfl UC.out rfl (.tail .head) rfl rfl rfl ?_; refine hx_yes rfl rfl rfl ?_; refine h_fieldAddr0 rfl rfl FC.out rfl rfl ?_; refine hx_yes rfl rfl rfl ?_; refine h_load rfl rfl UC.out rfl .head rfl rfl rfl ?_; refine hx_yes rfl rfl rfl ?_; refine h_cmp rfl rfl rfl rfl rfl rfl ?_; refine Zq rfl rfl rfl rfl rfl rfl ?_; refine Zm rfl rfl rfl rfl rfl ?_; refine hx_gcaseD rfl rfl rfl (fun hc => ?_) (fun hc => ?_); refine hx_yes rfl rfl rfl ?_; refine h_fieldAddr0 rfl rfl FC.out rfl rfl ?_; refine hx_yes rfl rfl rfl ?_; refine h_load rfl rfl UC.out rfl (.tail .head) rfl rfl rfl ?_; refine hx_yes rfl rfl rfl ?_; refine h_fieldAddr0 rfl rfl FC.out rfl rfl ?_; refine hx_yes rfl rfl rfl ?_; refine h_load rfl rfl UC.out rfl .head rfl rfl rfl ?_; refine hx_yes rfl rfl rfl ?_; refine h_cmp rfl rfl rfl rfl rfl rfl ?_; refine Zq rfl rfl rfl rfl rfl rfl ?_; refine Zm rfl rfl rfl rfl rfl ?_; refine hx_gcaseD rfl rfl rfl (fun hc => ?_) (fun hc => ?_); refine hx_yes rfl rfl rfl ?_; refine h_fieldAddr0 rfl rfl FC.out rfl rfl ?_; refine hx_yes rfl rfl rfl ?_; refine h_load rfl rfl UC.out rfl (.tail .head) rfl rfl rfl ?_; refine hx_yes rfl rfl rfl ?_; refine h_fieldAddr0 rfl rfl FC.out rfl rfl ?_; refine hx_yes rfl rfl rfl ?_; refine h_load rfl rfl UC.out rfl .head rfl rfl rfl ?_; refine hx_yes rfl rfl rfl ?_; refine h_cmp rfl rfl rfl rfl rfl rfl ?_; refine Zq rfl rfl rfl rfl rfl rfl ?_; refine Zm rfl rfl rfl rfl rfl ?_; refine hx_gcaseD rfl rfl rfl (fun hc => ?_) (fun hc => ?_); refine hx_yes rfl rfl rfl ?_; refine h_fieldAddr0 rfl rfl FC.out rfl rfl ?_; refine hx_yes rfl rfl rfl ?_; refine h_load rfl rfl UC.out rfl (.tail .head) rfl rfl rfl ?_; refine hx_yes rfl rfl rfl ?_; refine h_fieldAddr0 rfl rfl FC.out rfl rfl ?_; refine hx_yes rfl rfl rfl ?_; refine h_load rfl rfl UC.out rfl .head rfl rfl rfl ?_; refine hx_yes rfl rfl rfl ?_; refine h_cmp rfl rfl rfl rfl rfl rfl ?_; refine Zq rfl rfl rfl rfl rfl rfl ?_; refine Zm rfl rfl rfl rfl rfl ?_; refine hx_gcaseD rfl rfl rfl (fun hc => ?_) (fun hc => ?_); refine hx_yes rfl rfl rfl ?_; refine h_fieldAddr0 rfl rfl FC.out rfl rfl ?_; refine hx_yes rfl rfl rfl ?_; refine h_load rfl rfl UC.out rfl (.tail .head) rfl rfl rfl ?_; refine hx_yes rfl rfl rfl ?_; refine h_fieldAddr0 rfl rfl FC.out rfl rfl ?_; refine hx_yes rfl rfl rfl ?_; refine h_load rfl rfl UC.out rfl .head rfl rfl rfl ?_; refine hx_yes rfl rfl rfl ?_; refine h_cmpS rfl rfl rfl rfl rfl rfl ?_; refine Zq rfl rfl rfl rfl rfl rfl ?_; refine Zm rfl rfl rfl rfl rfl ?_; refine hx_gcase rfl rfl rfl (fun hc => ?_) (fun hc => ?_); refine hx_yes rfl rfl rfl ?_; refine h_fieldAddr0 rfl rfl FC.out rfl rfl ?_; refine hx_yes rfl rfl rfl ?_; refine h_load rfl rfl UC.out rfl (.tail .head) rfl rfl rfl ?_; refine hx_yes rfl rfl rfl ?_; refine h_fieldAddr0 rfl rfl FC.out rfl rfl ?_; refine hx_yes rfl rfl rfl ?_; refine h_load rfl rfl UC.out rfl .head rfl rfl rfl ?_; refine hx_yes rfl rfl rfl ?_; refine h_cmpS rfl rfl rfl rfl rfl rfl ?_; refine Zq rfl rfl rfl rfl rfl rfl ?_; refine Zm rfl rfl rfl rfl rfl ?_; refine hx_gcase rfl rfl rfl (fun hc => ?_) (fun hc => ?_); refine hx_yes rfl rfl rfl ?_; refine h_fieldAddr0 rfl rfl FC.out rfl rfl ?_; refine hx_yes rfl rfl rfl ?_; refine h_load rfl rfl UC.out rfl (.tail .head) rfl rfl rfl ?_; refine hx_yes rfl rfl rfl ?_; refine h_fieldAddr0 rfl rfl FC.out rfl rfl ?_; refine hx_yes rfl rfl rfl ?_; refine h_load rfl rfl UC.out rfl .head rfl rfl rfl ?_; refine hx_yes rfl rfl rfl ?_; refine h_cmpS rfl rfl rfl rfl rfl rfl ?_; refine Zq rfl rfl rfl rfl rfl rfl ?_; (iterate 2 (refine Zn rfl rfl rfl rfl rfl ?_; refine hc_ret ?_; rotate_left; (iterate 5 (refine hx_skip rfl rfl rfl rfl rfl rfl ?_)); refine Zp rfl rfl rfl rfl rfl rfl ?_)); refine Zm rfl rfl rfl rfl rfl ?_; (iterate 5 (refine hx_skip rfl rfl rfl rfl rfl rfl ?_)); refine Zp rfl rfl rfl rfl rfl rfl ?_; refine Zn rfl rfl rfl rfl rfl ?_; refine hc_ret ?_; rotate_left; (iterate 2 ((iterate 5 (refine hx_skip rfl rfl rfl rfl rfl rfl ?_)); refine Zp rfl rfl rfl rfl rfl rfl ?_; refine Zm rfl rfl rfl rfl rfl ?_)); (iterate 5 (refine hx_skip rfl rfl rfl rfl rfl rfl ?_)); refine Zp rfl rfl rfl rfl rfl rfl ?_; refine Zn rfl rfl rfl rfl rfl ?_; refine hc_ret ?_; rotate_left; (iterate 3 ((iterate 5 (refine hx_skip rfl rfl rfl rfl rfl rfl ?_)); refine Zp rfl rfl rfl rfl rfl rfl ?_; refine Zm rfl rfl rfl rfl rfl ?_)); (iterate 5 (refine hx_skip rfl rfl rfl rfl rfl rfl ?_)); refine Zp rfl rfl rfl rfl rfl rfl ?_; refine Zn rfl rfl rfl rfl rfl ?_; refine hc_ret ?_; rotate_left; (iterate 4 ((iterate 5 (refine hx_skip rfl rfl rfl rfl rfl rfl ?_)); refine Zp rfl rfl rfl rfl rfl rfl ?_; refine Zm rfl rfl rfl rfl rfl ?_)); (iterate 5 (refine hx_skip rfl rfl rfl rfl rfl rfl ?_)); refine Zp rfl rfl rfl rfl rfl rfl ?_; refine Zn rfl rfl rfl rfl rfl ?_; refine hc_ret ?_; rotate_left; (iterate 5 ((iterate 5 (refine hx_skip rfl rfl rfl rfl rfl rfl ?_)); refine Zp rfl rfl rfl rfl rfl rfl ?_; refine Zm rfl rfl rfl rfl rfl ?_)); (iterate 5 (refine hx_skip rfl rfl rfl rfl rfl rfl ?_)); refine Zp rfl rfl rfl rfl rfl rfl ?_; refine Zn rfl rfl rfl rfl rfl ?_; refine hc_ret ?_; rotate_left; (iterate 6 ((iterate 5 (refine hx_skip rfl rfl rfl rfl rfl rfl ?_)); refine Zp rfl rfl rfl rfl rfl rfl ?_; refine Zm rfl rfl rfl rfl rfl ?_)); (iterate 5 (refine hx_skip rfl rfl rfl rfl rfl rfl ?_)); refine Zp rfl rfl rfl rfl rfl rfl ?_; refine Zn rfl rfl rfl rfl rfl ?_; refine hc_ret ?_; rotate_left; (iterate 5 (refine hx_skip rfl rfl rfl rfl rfl rfl ?_)); refine Zp rfl rfl rfl rfl rfl rfl ?_; refine Zn rfl rfl rfl rfl rfl ?_; refine Zw rfl rfl rfl rfl rfl ?_; refine Zm rfl rfl rfl rfl rfl ?_; refine hx_yes rfl rfl rfl ?_; refine h_move rfl rfl rfl rfl ?_; refine Zq rfl rfl rfl rfl rfl rfl ?_; (iterate 7 (refine Zm rfl rfl rfl rfl rfl ?_; (iterate 5 (refine hx_skip rfl rfl rfl rfl rfl rfl ?_)); refine Zp rfl rfl rfl rfl rfl rfl ?_)); refine Zn rfl rfl rfl rfl rfl ?_; refine hc_ret ?_; rotate_left; (iterate 5 (refine hx_skip rfl rfl rfl rfl rfl rfl ?_)); refine Zp rfl rfl rfl rfl rfl rfl ?_; refine Zm rfl rfl rfl rfl rfl ?_; (iterate 5 (refine hx_skip rfl rfl rfl rfl rfl rfl ?_)); refine Zp rfl rfl rfl rfl rfl rfl ?_; refine Zn rfl rfl rfl rfl rfl ?_; refine Zw rfl rfl rfl rfl rfl ?_; refine Zm rfl rfl rfl rfl rfl ?_; refine hx_yes rfl rfl rfl ?_; refine h_move rfl rfl rfl rfl ?_; refine Zq rfl rfl rfl rfl rfl rfl ?_; (iterate 7 (refine Zm rfl rfl rfl rfl rfl ?_; (iterate 5 (refine hx_skip rfl rfl rfl rfl rfl rfl ?_)); refine Zp rfl rfl rfl rfl rfl rfl ?_)); refine Zn rfl rfl rfl rfl rfl ?_; refine hc_ret ?_; rotate_left; (iterate 2 ((iterate 5 (refine hx_skip rfl rfl rfl rfl rfl rfl ?_)); refine Zp rfl rfl rfl rfl rfl rfl ?_; refine Zm rfl rfl rfl rfl rfl ?_)); (iterate 5 (refine hx_skip rfl rfl rfl rfl rfl rfl ?_)); refine Zp rfl rfl rfl rfl rfl rfl ?_; refine Zn rfl rfl rfl rfl rfl ?_; refine Zw rfl rfl rfl rfl rfl ?_; refine Zm rfl rfl rfl rfl rfl ?_; refine hx_yes rfl rfl rfl ?_; refine h_move rfl rfl rfl rfl ?_; refine Zq rfl rfl rfl rfl rfl rfl ?_; (iterate 7 (refine Zm rfl rfl rfl rfl rfl ?_; (iterate 5 (refine hx_skip rfl rfl rfl rfl rfl rfl ?_)); refine Zp rfl rfl rfl rfl rfl rfl ?_)); refine Zn rfl rfl rfl rfl rfl ?_; refine hc_ret ?_; rotate_left; (iterate 3 ((iterate 5 (refine hx_skip rfl rfl rfl rfl rfl rfl ?_)); refine Zp rfl rfl rfl rfl rfl rfl ?_; refine Zm rfl rfl rfl rfl rfl ?_)); (iterate 5 (refine hx_skip rfl rfl rfl rfl rfl rfl ?_)); refine Zp rfl rfl rfl rfl rfl rfl ?_; refine Zn rfl rfl rfl rfl rfl ?_; refine Zw rfl rfl rfl rfl rfl ?_; refine Zm rfl rfl rfl rfl rfl ?_; refine hx_yes rfl rfl rfl ?_; refine h_move rfl rfl rfl rfl ?_; refine Zq rfl rfl rfl rfl rfl rfl ?_; (iterate 7 (refine Zm rfl rfl rfl rfl rfl ?_; (iterate 5 (refine hx_skip rfl rfl rfl rfl rfl rfl ?_)); refine Zp rfl rfl rfl rfl rfl rfl ?_)); refine Zn rfl rfl rfl rfl rfl ?_; refine hc_ret ?_; rotate_left)
    all_goals (refine hq_ret1 (.inr rfl) rfl rfl ⟨congrArg Value.bool ?_, rfl⟩ (fun _ h => h.emp); clear h1 h2; simp_all [toList_beq]; done)
  · rw [decide_eq_false q1]
    (refine Zn rfl rfl rfl rfl rfl ?_; refine Zl rfl ?_; refine h_fieldAddr0 rfl rfl FC.out rfl rfl ?_; refine hx_plain rfl ?_; refine h_load rfl rfl UC.out rfl (.tail .head) rfl rfl rfl ?_; refine Zf rfl rfl rfl rfl rfl ?_; refine Zh rfl rfl rfl rfl rfl rfl rfl ?_; refine Zc rfl rfl rfl rfl rfl rfl rfl ?_; refine Zm rfl rfl rfl rfl rfl ?_; refine hx_gcaseD rfl rfl rfl (fun hc => ?_) (fun hc => ?_); refine hx_yes rfl rfl rfl ?_; refine h_fieldAddr0 rfl rfl FC.out rfl rfl ?_; refine hx_yes rfl rfl rfl ?_; refine h_load rfl rfl UC.out rfl (.tail .head) rfl rfl rfl ?_; refine hx_yes rfl rfl rfl ?_; refine h_fieldAddr0 rfl rfl FC.out rfl rfl ?_; refine hx_yes rfl rfl rfl ?_; refine h_load rfl rfl UC.out rfl .head rfl rfl rfl ?_; refine hx_yes rfl rfl rfl ?_; refine h_cmp rfl rfl rfl rfl rfl rfl ?_; refine Zq rfl rfl rfl rfl rfl rfl ?_; refine Zm rfl rfl rfl rfl rfl ?_; refine hx_gcaseD rfl rfl rfl (fun hc => ?_) (fun hc => ?_); refine hx_yes rfl rfl rfl ?_; refine h_fieldAddr0 rfl rfl FC.out rfl rfl ?_; refine hx_yes rfl rfl rfl ?_; refine h_load rfl rfl UC.out rfl (.tail .head) rfl rfl rfl ?_; refine hx_yes rfl rfl rfl ?_; refine h_fieldAddr0 rfl rfl FC.out rfl rfl ?_; refine hx_yes rfl rfl rfl ?_; refine h_load rfl rfl UC.out rfl .head rfl rfl rfl ?_; refine hx_yes rfl rfl rfl ?_; refine h_cmp rfl rfl rfl rfl rfl rfl ?_; refine Zq rfl rfl rfl rfl rfl rfl ?_; refine Zm rfl rfl rfl rfl rfl ?_; refine hx_gcaseD rfl rfl rfl (fun hc => ?_) (fun hc => ?_); refine hx_yes rfl rfl rfl ?_; refine h_fieldAddr0 rfl rfl FC.out rfl rfl ?_; refine hx_yes rfl rfl rfl ?_; refine h_load rfl rfl UC.out rfl (.tail .head) rfl rfl rfl ?_; refine hx_yes rfl rfl rfl ?_; refine h_fieldAddr0 rfl rfl FC.out rfl rfl ?_; refine hx_yes rfl rfl rfl ?_; refine h_load rfl rfl UC.out rfl .head rfl rfl rfl ?_; refine hx_yes rfl rfl rfl ?_; refine h_cmp rfl rfl rfl rfl rfl rfl ?_; refine Zq rfl rfl rfl rfl rfl rfl ?_; refine Zm rfl rfl rfl rfl rfl ?_; refine hx_gcaseD rfl rfl rfl (fun hc => ?_) (fun hc => ?_); refine hx_yes rfl rfl rfl ?_; refine h_fieldAddr0 rfl rfl FC.out rfl rfl ?_; refine hx_yes rfl rfl rfl ?_; refine h_load rfl rfl UC.out rfl (.tail .head) rfl rfl rfl ?_; refine hx_yes rfl rfl rfl ?_; refine h_fieldAddr0 rfl rfl FC.out rfl rfl ?_; refine hx_yes rfl rfl rfl ?_; refine h_load rfl rfl UC.out rfl .head rfl rfl rfl ?_; refine hx_yes rfl rfl rfl ?_; refine h_cmp rfl rfl rfl rfl rfl rfl ?_; refine Zq rfl rfl rfl rfl rfl rfl ?_; refine Zn rfl rfl rfl rfl rfl ?_; refine Zw rfl rfl rfl rfl rfl ?_; refine Zm rfl rfl rfl rfl rfl ?_; (iterate 7 (refine hx_skip rfl rfl rfl rfl rfl rfl ?_; refine Zp rfl rfl rfl rfl rfl rfl ?_; refine Zm rfl rfl rfl rfl rfl ?_; (iterate 4 (refine hx_skip rfl rfl rfl rfl rfl rfl ?_)))); refine hx_skip rfl rfl rfl rfl rfl rfl ?_; refine Zp rfl rfl rfl rfl rfl rfl ?_; refine Zn rfl rfl rfl rfl rfl ?_; refine hc_ret ?_; rotate_left; (iterate 5 (refine hx_skip rfl rfl rfl rfl rfl rfl ?_)); refine Zp rfl rfl rfl rfl rfl rfl ?_; refine Zn rfl rfl rfl rfl rfl ?_; refine Zw rfl rfl rfl rfl rfl ?_; refine Zm rfl rfl rfl rfl rfl ?_; (iterate 7 (refine hx_skip rfl rfl rfl rfl rfl rfl ?_; refine Zp rfl rfl rfl rfl rfl rfl ?_; refine Zm rfl rfl rfl rfl rfl ?_; (iterate 4 (refine hx_skip rfl rfl rfl rfl rfl rfl ?_)))); refine hx_skip rfl rfl rfl rfl rfl rfl ?_; refine Zp rfl rfl rfl rfl rfl rfl ?_; refine Zn rfl rfl rfl rfl rfl ?_; refine hc_ret ?_; rotate_left; (iterate 5 (refine hx_skip rfl rfl rfl rfl rfl rfl ?_)); refine Zp rfl rfl rfl rfl rfl rfl ?_; refine Zm rfl rfl rfl rfl rfl ?_; (iterate 5 (refine hx_skip rfl rfl rfl rfl rfl rfl ?_)); refine Zp rfl rfl rfl rfl rfl rfl ?_; refine Zn rfl rfl rfl rfl rfl ?_; refine Zw rfl rfl rfl rfl rfl ?_; refine Zm rfl rfl rfl rfl rfl ?_; (iterate 7 (refine hx_skip rfl rfl rfl rfl rfl rfl ?_; refine Zp rfl rfl rfl rfl rfl rfl ?_; refine Zm rfl rfl rfl rfl rfl ?_; (iterate 4 (refine hx_skip rfl rfl rfl rfl rfl rfl ?_)))); refine hx_skip rfl rfl rfl rfl rfl rfl ?_; refine Zp rfl rfl rfl rfl rfl rfl ?_; refine Zn rfl rfl rfl rfl rfl ?_; refine hc_ret ?_; rotate_left; (iterate 2 ((iterate 5 (refine hx_skip rfl rfl rfl rfl rfl rfl ?_)); refine Zp rfl rfl rfl rfl rfl rfl ?_; refine Zm rfl rfl rfl rfl rfl ?_)); (iterate 5 (refine hx_skip rfl rfl rfl rfl rfl rfl ?_)); refine Zp rfl rfl rfl rfl rfl rfl ?_; refine Zn rfl rfl rfl rfl rfl ?_; refine Zw rfl rfl rfl rfl rfl ?_; refine Zm rfl rfl rfl rfl rfl ?_; (iterate 7 (refine hx_skip rfl rfl rfl rfl rfl rfl ?_; refine Zp rfl rfl rfl rfl rfl rfl ?_; refine Zm rfl rfl rfl rfl rfl ?_; (iterate 4 (refine hx_skip rfl rfl rfl rfl rfl rfl ?_)))); refine hx_skip rfl rfl rfl rfl rfl rfl ?_; refine Zp rfl rfl rfl rfl rfl rfl ?_; refine Zn rfl rfl rfl rfl rfl ?_; refine hc_ret ?_; rotate_left; (iterate 3 ((iterate 5 (refine hx_skip rfl rfl rfl rfl rfl rfl ?_)); refine Zp rfl rfl rfl rfl rfl rfl ?_; refine Zm rfl rfl rfl rfl rfl ?_)); (iterate 5 (refine hx_skip rfl rfl rfl rfl rfl rfl ?_)); refine Zp rfl rfl rfl rfl rfl rfl ?_; refine Zn rfl rfl rfl rfl rfl ?_; refine Zw rfl rfl rfl rfl rfl ?_; refine Zm rfl rfl rfl rfl rfl ?_; (iterate 7 (refine hx_skip rfl rfl rfl rfl rfl rfl ?_; refine Zp rfl rfl rfl rfl rfl rfl ?_; refine Zm rfl rfl rfl rfl rfl ?_; (iterate 4 (refine hx_skip rfl rfl rfl rfl rfl rfl ?_)))); refine hx_skip rfl rfl rfl rfl rfl rfl ?_; refine Zp rfl rfl rfl rfl rfl rfl ?_; refine Zn rfl rfl rfl rfl rfl ?_; refine hc_ret ?_; rotate_left)
    all_goals (refine hq_ret1 (.inr rfl) rfl rfl ⟨congrArg Value.bool ?_, rfl⟩ (fun _ h => h.emp); clear h1 h2; simp_all [toList_beq]; done)
set_option maxHeartbeats 4000000 in
theorem sameEntries {xs ys : List EntV} {w : World} {v1 v2 : Value} (h1 : Rd entE w v1 xs) (h2 : Rd entE w v2 ys) : Calls Tryz.prog 55 [v1, v2].toArray w (fun en w' => en = .returned (.bool (decide (xs = ys))) ∧ But w w' nowhere) := by
  obtain ⟨a1, c1, rfl, l1, m1, k1⟩ := h1
  obtain ⟨a2, c2, rfl, l2, m2, k2⟩ := h2
  unfold maxLen at m1 m2
  refine reads_of Tryz.func55 rfl rfl (Nat.le_of_ble_eq_true rfl) ?_
  (refine Zx rfl rfl rfl rfl rfl ?_; refine hc_seq ?_; refine Zw rfl rfl rfl rfl rfl ?_; refine hx_plain rfl ?_; refine h_len_slice rfl rfl rfl UC.out rfl rfl rfl ?_; refine Zm rfl rfl rfl rfl rfl ?_; refine hx_plain rfl ?_; refine h_len_slice rfl rfl rfl UC.out rfl rfl rfl ?_; refine Zc rfl rfl rfl rfl rfl rfl rfl ?_; refine Zt ?_; refine hc_condD rfl (fun hc => ?_) (fun hc => ?_); refine Zx rfl rfl rfl rfl rfl ?_; refine hc_ret ?_; refine hq_ret_then ?_; rotate_left; refine hc_skip ?_; refine hq_then ?_; refine hc_seq ?_; refine Zx rfl rfl rfl rfl rfl ?_; refine hc_block ?_; rotate_left)
  · refine hq_ret1 (.inr rfl) rfl rfl ⟨?_, rfl⟩ (fun _ h => h.emp)
    rw [decide_eq_false]
    intro e
    exact hc (by rw [e])
  have hlen : xs.length = ys.length := by have := Classical.not_not.1 hc; omega
  refine hc_cut (id := 0) (Y := Unit) (fun _ => []) (fun _ => []) (fun _ => xs = ys) ?_ ?_
  · refine hc_loop (X := Nat) (fun i => [(0, .slice a1 xs.length c1), (1, .slice a2 ys.length c2), (5, .int .i64 (i : Int))]) (fun _ => []) (fun i => i ≤ xs.length ∧ xs.take i = ys.take i) (fun i => xs.length - i) 0 (.cons rfl (.cons rfl (.cons rfl .nil))) ⟨Nat.zero_le _, rfl⟩ (fun _ h => h) ?_
    rintro i ⟨hi, hz⟩
    by_cases hlt : i < xs.length
    · have hlt2 : i < ys.length := by omega
      have hx : xs ≠ [] := by
        intro e
        rw [e] at hlt
        exact absurd hlt (Nat.not_lt_zero _)
      have hy : ys ≠ [] := by
        intro e
        rw [e] at hlt2
        exact absurd hlt2 (Nat.not_lt_zero _)
      obtain ⟨g1, o1, rfl, r1⟩ := k1.resolve_left hx
      obtain ⟨g2, o2, rfl, r2⟩ := k2.resolve_left hy
      obtain ⟨⟨pn, pi, pk⟩, hp⟩ : ∃ p, xs[i] = p := ⟨_, rfl⟩
      obtain ⟨⟨qn, qi, qk⟩, hq⟩ : ∃ q, ys[i] = q := ⟨_, rfl⟩
      have e1 : xs[((i : Nat) : Int).toNat]? = some ⟨pn, pi, pk⟩ := by rw [← hp]; exact List.getElem?_eq_getElem hlt
      have e2 : ys[((i : Nat) : Int).toNat]? = some ⟨qn, qi, qk⟩ := by rw [← hq]; exact List.getElem?_eq_getElem hlt2
      have hne : ∀ (_ : ¬ (pn = qn ∧ pi = qi ∧ pk = qk)), false = decide (xs = ys) := fun h => by
        rw [eq_comm, decide_eq_false_iff_not]
        rintro rfl
        rw [hp] at hq
        injection hq with q1 q2 q3
        exact h ⟨q1, q2, q3⟩
      (refine hc_seq ?_; refine Zw rfl rfl rfl rfl rfl ?_; refine Zm rfl rfl rfl rfl rfl ?_; refine hx_plain rfl ?_; refine h_len_slice rfl rfl rfl UC.out rfl rfl rfl ?_; refine Zc rfl rfl rfl rfl rfl rfl rfl ?_; refine Zt ?_; refine hc_condDT rfl (by omega) ?_; refine hc_skip ?_; refine hq_then ?_; refine hc_seq ?_; refine hc_block ?_; refine hc_seq ?_; refine hc_draw0 (by kernel_rfl) (by kernel_rfl) ?_; (iterate 2 (refine Zm rfl rfl rfl rfl rfl ?_)); refine hx_plain rfl ?_; refine h_indexAddr rfl rfl rfl UC.out IC.size (by omega) (by omega) rfl rfl ?_; refine hx_plain rfl ?_; refine h_fieldAddr rfl rfl FC.out rfl rfl ?_; refine hx_plain rfl ?_; refine h_rdLoad rfl r1 rfl UC.out rfl (by with_reducible assumption) rfl rfl rfl ?_; (iterate 2 (refine Zm rfl rfl rfl rfl rfl ?_)); refine hx_plain rfl ?_; refine h_indexAddr rfl rfl rfl UC.out IC.size (by omega) (by omega) rfl rfl ?_; refine hx_plain rfl ?_; refine h_fieldAddr rfl rfl FC.out rfl rfl ?_; refine hx_plain rfl ?_; refine h_rdLoad rfl r2 rfl UC.out rfl (by with_reducible assumption) rfl rfl rfl ?_; refine hx_plain rfl ?_; refine h_cmpS rfl rfl rfl rfl rfl rfl ?_; refine Zm rfl rfl rfl rfl rfl ?_; refine hx_gcase rfl rfl rfl (fun hc => ?_) (fun hc => ?_); (iterate 11 (refine hx_skip rfl rfl rfl rfl rfl rfl ?_)); refine Zq rfl rfl rfl rfl rfl rfl ?_; refine Zm rfl rfl rfl rfl rfl ?_; (iterate 11 (refine hx_skip rfl rfl rfl rfl rfl rfl ?_)); refine Zq rfl rfl rfl rfl rfl rfl ?_; refine Zt ?_; refine hc_condT rfl ?_; refine Zx rfl rfl rfl rfl rfl ?_; refine hc_ret ?_; refine hq_ret_block ?_; (iterate 2 (refine hq_ret_then ?_)); refine hq_cut_ret ?_; refine hq_ret_block ?_; refine hq_ret_then ?_; rotate_left; (iterate 2 (refine hx_yes rfl rfl rfl ?_; refine h_move rfl rfl rfl rfl ?_)); refine hx_yes rfl rfl rfl ?_; refine h_indexAddr rfl rfl rfl UC.out IC.size (by omega) (by omega) rfl rfl ?_; refine hx_yes rfl rfl rfl ?_; refine h_fieldAddr rfl rfl FC.out rfl rfl ?_; refine hx_yes rfl rfl rfl ?_; refine h_rdLoad rfl r1 rfl UC.out rfl (by with_reducible assumption) rfl rfl rfl ?_; (iterate 2 (refine hx_yes rfl rfl rfl ?_; refine h_move rfl rfl rfl rfl ?_)); refine hx_yes rfl rfl rfl ?_; refine h_indexAddr rfl rfl rfl UC.out IC.size (by omega) (by omega) rfl rfl ?_; refine hx_yes rfl rfl rfl ?_; refine h_fieldAddr rfl rfl FC.out rfl rfl ?_; refine hx_yes rfl rfl rfl ?_; refine h_rdLoad rfl r2 rfl UC.out rfl (by with_reducible assumption) rfl rfl rfl ?_; refine hx_yes rfl rfl rfl ?_; refine h_cmp rfl rfl rfl rfl rfl rfl ?_; refine Zp rfl rfl rfl rfl rfl rfl ?_; refine Zm rfl rfl rfl rfl rfl ?_; refine hx_gcaseD rfl rfl rfl (fun hc => ?_) (fun hc => ?_); (iterate 11 (refine hx_skip rfl rfl rfl rfl rfl rfl ?_)); refine Zq rfl rfl rfl rfl rfl rfl ?_; refine Zt ?_; refine hc_condT rfl ?_; refine Zx rfl rfl rfl rfl rfl ?_; refine hc_ret ?_; refine hq_ret_block ?_; (iterate 2 (refine hq_ret_then ?_)); refine hq_cut_ret ?_; refine hq_ret_block ?_; refine hq_ret_then ?_; rotate_left; (iterate 2 (refine hx_yes rfl rfl rfl ?_; refine h_move rfl rfl rfl rfl ?_)); refine hx_yes rfl rfl rfl ?_; refine h_indexAddr rfl rfl rfl UC.out IC.size (by omega) (by omega) rfl rfl ?_; refine hx_yes rfl rfl rfl ?_; refine h_fieldAddr rfl rfl FC.out rfl rfl ?_; refine hx_yes rfl rfl rfl ?_; refine h_rdLoad rfl r1 rfl UC.out rfl (by with_reducible assumption) rfl rfl rfl ?_; (iterate 2 (refine hx_yes rfl rfl rfl ?_; refine h_move rfl rfl rfl rfl ?_)); refine hx_yes rfl rfl rfl ?_; refine h_indexAddr rfl rfl rfl UC.out IC.size (by omega) (by omega) rfl rfl ?_; refine hx_yes rfl rfl rfl ?_; refine h_fieldAddr rfl rfl FC.out rfl rfl ?_; refine hx_yes rfl rfl rfl ?_; refine h_rdLoad rfl r2 rfl UC.out rfl (by with_reducible assumption) rfl rfl rfl ?_; refine hx_yes rfl rfl rfl ?_; refine h_cmp rfl rfl rfl rfl rfl rfl ?_; refine Zp rfl rfl rfl rfl rfl rfl ?_; refine Zt ?_; refine hc_condD rfl (fun hc => ?_) (fun hc => ?_); refine Zx rfl rfl rfl rfl rfl ?_; refine hc_ret ?_; refine hq_ret_block ?_; (iterate 2 (refine hq_ret_then ?_)); refine hq_cut_ret ?_; refine hq_ret_block ?_; refine hq_ret_then ?_; rotate_left; refine hc_skip ?_; refine hq_norm_block ?_; refine hq_then ?_; refine hc_lex ?_; refine Zm rfl rfl rfl rfl rfl ?_; refine hx_plain rfl ?_; refine h_arithI rfl rfl rfl rfl (by omega) rfl rfl ?_; refine Za rfl rfl rfl rfl rfl ?_; refine hx_nil ?_; rotate_left)
      · refine hq_ret1 (.inr rfl) rfl rfl ⟨congrArg Value.bool ?_, rfl⟩ (fun _ h => h.emp)
        refine hne ?_
        clear r1 r2 e1 e2 hne hp hq hz k1 k2
        simp_all [toList_beq]
      · refine hq_ret1 (.inr rfl) rfl rfl ⟨congrArg Value.bool ?_, rfl⟩ (fun _ h => h.emp)
        refine hne ?_
        clear r1 r2 e1 e2 hne hp hq hz k1 k2
        simp_all [toList_beq]
      · refine hq_ret1 (.inr rfl) rfl rfl ⟨congrArg Value.bool ?_, rfl⟩ (fun _ h => h.emp)
        refine hne ?_
        clear r1 r2 e1 e2 hne hp hq hz k1 k2
        simp_all [toList_beq]
      · refine hq_round (i + 1) (by omega) ⟨by omega, ?_⟩ (.cons rfl (.cons rfl (.cons rfl .nil))) (fun _ h => h.emp)
        have he : pn = qn ∧ pi = qi ∧ pk = qk := by
          clear r1 r2 e1 e2 hne hp hq hz k1 k2
          simp_all [toList_beq]
        rw [take_succ1 hlt, take_succ1 hlt2, hz, hp, hq, he.1, he.2.1, he.2.2]
    · (refine hc_seq ?_; refine Zw rfl rfl rfl rfl rfl ?_; refine Zm rfl rfl rfl rfl rfl ?_; refine hx_plain rfl ?_; refine h_len_slice rfl rfl rfl UC.out rfl rfl rfl ?_; refine Zc rfl rfl rfl rfl rfl rfl rfl ?_; refine Zt ?_; refine hc_condDF rfl (by omega) ?_; refine hc_exit ?_; (iterate 2 (refine hq_exit_then ?_)))
      refine hq_cut () ?_ .nil (fun _ h => h)
      rwa [List.take_of_length_le (by omega), List.take_of_length_le (by omega)] at hz
  rintro ⟨⟩ he
  (refine hq_exit_block ?_; refine hq_then ?_; refine Zx rfl rfl rfl rfl rfl ?_; refine hc_ret ?_)
  exact hq_ret1 (.inr rfl) rfl rfl ⟨by rw [decide_eq_true he], rfl⟩ (fun _ h => h.emp)
end Go.Proofs.YtfolhmlldoepfaaGreatDoor
namespace Go.Proofs.YtfolhmlldoepfaaGreatDoor
open Go Go.Proofs Go.RowKit
set_option maxRecDepth 4000
set_option maxHeartbeats 4000000 in
theorem sameReply {a b : RepV} {da db : List Int} {ea eb : List EntV} {w : World} (h1 : Rd byteE w a.dv.v da) (h2 : Rd byteE w b.dv.v db) (h3 : Rd entE w a.lv.v ea) (h4 : Rd entE w b.lv.v eb) : Calls Tryz.prog 33 [.agg a.cs, .agg b.cs].toArray w (fun en w' => en = .returned (.bool (sameP a b da db ea eb)) ∧ But w w' nowhere) := by
  obtain ⟨client, seq, epoch, op, status, aid, akind, asize, achange, ⟨ad, an, ac⟩, ⟨al, am, am2⟩, more⟩ := a
  obtain ⟨client', seq', epoch', op', status', aid', akind', asize', achange', ⟨bd, bn, bc⟩, ⟨bl, bm, bm2⟩, more'⟩ := b
  dsimp only [RepV.cs, SlV.v] at h1 h2 h3 h4 ⊢
  unfold sameP
  dsimp only
  refine reads_of Tryz.func33 rfl rfl (Nat.le_of_ble_eq_true rfl) ?_
  (refine Zl rfl ?_; (refine h_box rfl rfl rfl rfl rfl rfl (fun _ => ?_)); refine hx_plain rfl ?_; (refine h_box rfl rfl rfl rfl rfl rfl (fun _ => ?_)); refine Zn rfl rfl rfl rfl rfl ?_; refine Zl rfl ?_; refine h_fieldAddr0 rfl rfl FC.out rfl rfl ?_; refine hx_plain rfl ?_; refine h_load rfl rfl UC.out rfl (.tail .head) rfl rfl rfl ?_; refine Zf rfl rfl rfl rfl rfl ?_; refine Zh rfl rfl rfl rfl rfl rfl rfl ?_; refine hx_plain rfl ?_)
  refine h_callRd rfl rfl rfl rfl rfl rfl EC.out (fun w' h => sameBytes (h.rd h1) (h.rd h2)) ?_
  (refine Zn rfl rfl rfl rfl rfl ?_; refine Zl rfl ?_; refine h_fieldAddr0 rfl rfl FC.out rfl rfl ?_; refine hx_plain rfl ?_; refine h_load rfl rfl UC.out rfl (.tail .head) rfl rfl rfl ?_; refine Zf rfl rfl rfl rfl rfl ?_; refine Zh rfl rfl rfl rfl rfl rfl rfl ?_; refine hx_plain rfl ?_)
  refine h_callRd rfl rfl rfl rfl rfl rfl EC.out (fun w' h => sameEntries (h.rd h3) (h.rd h4)) ?_
  (refine Zn rfl rfl rfl rfl rfl ?_; refine Zl rfl ?_; refine h_fieldAddr0 rfl rfl FC.out rfl rfl ?_; refine hx_plain rfl ?_)
  refine h_loadP (cs' := #[.int .i64 aid, .int .i64 akind, .int .i64 asize, .int .i64 achange]) rfl rfl UC.out rfl IC.size (.tail .head) rfl (by kernel_rfl) rfl rfl ?_
  (refine Zf rfl rfl rfl rfl rfl ?_; refine hx_plain rfl ?_)
  refine h_loadP (cs' := #[.int .i64 aid', .int .i64 akind', .int .i64 asize', .int .i64 achange']) rfl rfl UC.out rfl IC.size .head rfl (by kernel_rfl) rfl rfl ?_
  (refine hx_plain rfl ?_)
  refine h_callR rfl rfl rfl rfl rfl rfl EC.out ((sameAttr _ _ _ _ _ _ _ _).reads _) ?_
  (refine Zn rfl rfl rfl rfl rfl ?_; refine hc_seq ?_)
  refine hc_drawN 52 (by kernel_rfl) (by kernel_rfl) ?_
  ((iterate 2 (refine Zm rfl rfl rfl rfl rfl ?_)); (iterate 2 (refine hx_gcaseD rfl rfl rfl (fun hc => ?_) (fun hc => ?_); refine hx_yes rfl rfl rfl ?_; refine h_move rfl rfl rfl rfl ?_; refine Zq rfl rfl rfl rfl rfl rfl ?_; refine Zm rfl rfl rfl rfl rfl ?_)); refine hx_gcaseD rfl rfl rfl (fun hc => ?_) (fun hc => ?_); refine hx_yes rfl rfl rfl ?_; refine h_fieldAddr0 rfl rfl FC.out rfl rfl ?_; refine hx_yes rfl rfl rfl ?_; refine h_load rfl rfl UC.out rfl (.tail .head) rfl rfl rfl ?_; refine hx_yes rfl rfl rfl ?_; refine h_fieldAddr0 rfl rfl FC.out rfl rfl ?_; refine hx_yes rfl rfl rfl ?_; refine h_load rfl rfl UC.out rfl .head rfl rfl rfl ?_; refine hx_yes rfl rfl rfl ?_; refine h_cmp rfl rfl rfl rfl rfl rfl ?_; refine Zq rfl rfl rfl rfl rfl rfl ?_; refine Zm rfl rfl rfl rfl rfl ?_; refine hx_gcaseD rfl rfl rfl (fun hc => ?_) (fun hc => ?_); refine hx_yes rfl rfl rfl ?_; refine h_fieldAddr0 rfl rfl FC.out rfl rfl ?_; refine hx_yes rfl rfl rfl ?_; refine h_load rfl rfl UC.out rfl (.tail .head) rfl rfl rfl ?_; refine hx_yes rfl rfl rfl ?_; refine h_fieldAddr0 rfl rfl FC.out rfl rfl ?_; refine hx_yes rfl rfl rfl ?_; refine h_load rfl rfl UC.out rfl .head rfl rfl rfl ?_; refine hx_yes rfl rfl rfl ?_; refine h_cmp rfl rfl rfl rfl rfl rfl ?_; refine Zq rfl rfl rfl rfl rfl rfl ?_; refine Zm rfl rfl rfl rfl rfl ?_; refine hx_gcaseD rfl rfl rfl (fun hc => ?_) (fun hc => ?_); refine hx_yes rfl rfl rfl ?_; refine h_fieldAddr0 rfl rfl FC.out rfl rfl ?_; refine hx_yes rfl rfl rfl ?_; refine h_load rfl rfl UC.out rfl (.tail .head) rfl rfl rfl ?_; refine hx_yes rfl rfl rfl ?_; refine h_fieldAddr0 rfl rfl FC.out rfl rfl ?_; refine hx_yes rfl rfl rfl ?_; refine h_load rfl rfl UC.out rfl .head rfl rfl rfl ?_; refine hx_yes rfl rfl rfl ?_; refine h_cmp rfl rfl rfl rfl rfl rfl ?_; refine Zq rfl rfl rfl rfl rfl rfl ?_; refine Zm rfl rfl rfl rfl rfl ?_; refine hx_gcaseD rfl rfl rfl (fun hc => ?_) (fun hc => ?_); refine hx_yes rfl rfl rfl ?_; refine h_fieldAddr0 rfl rfl FC.out rfl rfl ?_; refine hx_yes rfl rfl rfl ?_; refine h_load rfl rfl UC.out rfl (.tail .head) rfl rfl rfl ?_; refine hx_yes rfl rfl rfl ?_; refine h_fieldAddr0 rfl rfl FC.out rfl rfl ?_; refine hx_yes rfl rfl rfl ?_; refine h_load rfl rfl UC.out rfl .head rfl rfl rfl ?_; refine hx_yes rfl rfl rfl ?_; refine h_cmp rfl rfl rfl rfl rfl rfl ?_; refine Zq rfl rfl rfl rfl rfl rfl ?_; refine Zm rfl rfl rfl rfl rfl ?_; refine hx_gcaseD rfl rfl rfl (fun hc => ?_) (fun hc => ?_); refine hx_yes rfl rfl rfl ?_; refine h_fieldAddr0 rfl rfl FC.out rfl rfl ?_; refine hx_yes rfl rfl rfl ?_; refine h_load rfl rfl UC.out rfl (.tail .head) rfl rfl rfl ?_; refine hx_yes rfl rfl rfl ?_; rotate_left; (iterate 7 (refine hx_skip rfl rfl rfl rfl rfl rfl ?_)); refine Zp rfl rfl rfl rfl rfl rfl ?_; refine Zm rfl rfl rfl rfl rfl ?_; (iterate 5 (refine hx_skip rfl rfl rfl rfl rfl rfl ?_)); refine Zp rfl rfl rfl rfl rfl rfl ?_; refine Zn rfl rfl rfl rfl rfl ?_; refine hc_ret ?_; rotate_left; (iterate 2 ((iterate 5 (refine hx_skip rfl rfl rfl rfl rfl rfl ?_)); refine Zp rfl rfl rfl rfl rfl rfl ?_; refine Zm rfl rfl rfl rfl rfl ?_; (iterate 2 (refine hx_skip rfl rfl rfl rfl rfl rfl ?_)))); (iterate 3 (refine hx_skip rfl rfl rfl rfl rfl rfl ?_)); refine Zp rfl rfl rfl rfl rfl rfl ?_; refine Zn rfl rfl rfl rfl rfl ?_; refine hc_ret ?_; rotate_left; (iterate 2 ((iterate 5 (refine hx_skip rfl rfl rfl rfl rfl rfl ?_)); refine Zp rfl rfl rfl rfl rfl rfl ?_; refine Zm rfl rfl rfl rfl rfl ?_)); (iterate 7 (refine hx_skip rfl rfl rfl rfl rfl rfl ?_)); refine Zp rfl rfl rfl rfl rfl rfl ?_; refine Zm rfl rfl rfl rfl rfl ?_; (iterate 5 (refine hx_skip rfl rfl rfl rfl rfl rfl ?_)); refine Zp rfl rfl rfl rfl rfl rfl ?_; refine Zn rfl rfl rfl rfl rfl ?_; refine hc_ret ?_; rotate_left; (iterate 3 ((iterate 5 (refine hx_skip rfl rfl rfl rfl rfl rfl ?_)); refine Zp rfl rfl rfl rfl rfl rfl ?_; refine Zm rfl rfl rfl rfl rfl ?_)); (iterate 7 (refine hx_skip rfl rfl rfl rfl rfl rfl ?_)); refine Zp rfl rfl rfl rfl rfl rfl ?_; refine Zm rfl rfl rfl rfl rfl ?_; (iterate 5 (refine hx_skip rfl rfl rfl rfl rfl rfl ?_)); refine Zp rfl rfl rfl rfl rfl rfl ?_; refine Zn rfl rfl rfl rfl rfl ?_; refine hc_ret ?_; rotate_left; (iterate 4 ((iterate 5 (refine hx_skip rfl rfl rfl rfl rfl rfl ?_)); refine Zp rfl rfl rfl rfl rfl rfl ?_; refine Zm rfl rfl rfl rfl rfl ?_)); (iterate 7 (refine hx_skip rfl rfl rfl rfl rfl rfl ?_)); refine Zp rfl rfl rfl rfl rfl rfl ?_; refine Zm rfl rfl rfl rfl rfl ?_; (iterate 5 (refine hx_skip rfl rfl rfl rfl rfl rfl ?_)); refine Zp rfl rfl rfl rfl rfl rfl ?_; refine Zn rfl rfl rfl rfl rfl ?_; refine hc_ret ?_; rotate_left; (iterate 5 (refine hx_skip rfl rfl rfl rfl rfl rfl ?_; refine Zp rfl rfl rfl rfl rfl rfl ?_; refine Zm rfl rfl rfl rfl rfl ?_; (iterate 4 (refine hx_skip rfl rfl rfl rfl rfl rfl ?_)))); (iterate 3 (refine hx_skip rfl rfl rfl rfl rfl rfl ?_)); refine Zp rfl rfl rfl rfl rfl rfl ?_; refine Zm rfl rfl rfl rfl rfl ?_; (iterate 5 (refine hx_skip rfl rfl rfl rfl rfl rfl ?_)); refine Zp rfl rfl rfl rfl rfl rfl ?_; refine Zn rfl rfl rfl rfl rfl ?_; refine hc_ret ?_; rotate_left; (iterate 2 (refine hx_skip rfl rfl rfl rfl rfl rfl ?_; refine Zp rfl rfl rfl rfl rfl rfl ?_; refine Zm rfl rfl rfl rfl rfl ?_)); (iterate 4 ((iterate 5 (refine hx_skip rfl rfl rfl rfl rfl rfl ?_)); refine Zp rfl rfl rfl rfl rfl rfl ?_; refine Zm rfl rfl rfl rfl rfl ?_)); (iterate 7 (refine hx_skip rfl rfl rfl rfl rfl rfl ?_)); refine Zp rfl rfl rfl rfl rfl rfl ?_; refine Zm rfl rfl rfl rfl rfl ?_; (iterate 5 (refine hx_skip rfl rfl rfl rfl rfl rfl ?_)); refine Zp rfl rfl rfl rfl rfl rfl ?_; refine Zn rfl rfl rfl rfl rfl ?_; refine hc_ret ?_; rotate_left)
  focus
    refine h_callR rfl rfl rfl rfl rfl rfl EC.out ((num_spec _).reads _) ?_
    (refine hx_yes rfl rfl rfl ?_; refine h_fieldAddr0 rfl rfl FC.out rfl rfl ?_; refine hx_yes rfl rfl rfl ?_; refine h_load rfl rfl UC.out rfl .head rfl rfl rfl ?_; refine hx_yes rfl rfl rfl ?_)
    refine h_callR rfl rfl rfl rfl rfl rfl EC.out ((num_spec _).reads _) ?_
    (refine hx_yes rfl rfl rfl ?_; refine h_cmp rfl rfl rfl rfl rfl rfl ?_; refine Zq rfl rfl rfl rfl rfl rfl ?_; refine Zm rfl rfl rfl rfl rfl ?_; refine hx_gcaseD rfl rfl rfl (fun hc => ?_) (fun hc => ?_); refine hx_yes rfl rfl rfl ?_; refine h_fieldAddr0 rfl rfl FC.out rfl rfl ?_; refine hx_yes rfl rfl rfl ?_; refine h_load rfl rfl UC.out rfl (.tail .head) rfl rfl rfl ?_; refine hx_yes rfl rfl rfl ?_; refine h_fieldAddr0 rfl rfl FC.out rfl rfl ?_; refine hx_yes rfl rfl rfl ?_; refine h_load rfl rfl UC.out rfl .head rfl rfl rfl ?_; refine hx_yes rfl rfl rfl ?_; refine h_cmpB rfl rfl rfl UC.out rfl rfl rfl ?_; refine Zq rfl rfl rfl rfl rfl rfl ?_; refine Zn rfl rfl rfl rfl rfl ?_; refine hc_ret ?_; rotate_left; (iterate 5 (refine hx_skip rfl rfl rfl rfl rfl rfl ?_)); refine Zp rfl rfl rfl rfl rfl rfl ?_; refine Zn rfl rfl rfl rfl rfl ?_; refine hc_ret ?_; rotate_left)
  all_goals first | (refine hq_ret1 (.inr rfl) rfl rfl ⟨congrArg Value.bool ?_, rfl⟩ (fun _ h => h.emp); clear h1 h2 h3 h4; simp_all; done) | (refine hq_ret1 (.inr rfl) rfl rfl ⟨congrArg Value.bool ?_, rfl⟩ (fun _ h => h.emp); clear h1 h2 h3 h4; simp_all; cases more <;> cases more' <;> rfl)
end Go.Proofs.YtfolhmlldoepfaaGreatDoor
namespace Go.Proofs.YtfolhmlldoepfaaGreatDoor
open Go Go.Proofs Go.RowKit
set_option maxRecDepth 4000
theorem N4_of {bs : List Int} {at_ : Nat} {x : Int} (h : (bs.drop at_).take 4 = dg (IntKind.u64.wrap x) 4) (hx : 0 ≤ x ∧ x < 4294967296) : N4 bs at_ = x := by
  have h5 : (256 : Int) ^ 4 = 4294967296 := by decide
  unfold N4
  rw [h, numR_dg _ (by decide), u64_in (by omega), h5, Int.emod_eq_of_lt (by omega) (by omega), wrapI_in (by omega)]
theorem N8_of {bs : List Int} {at_ : Nat} {x : Int} (h : (bs.drop at_).take 8 = dg x 8) (hx : 0 ≤ x ∧ x ≤ 18446744073709551615) : N8 bs at_ = x := by
  have h5 : (256 : Int) ^ 8 = 18446744073709551616 := by decide
  unfold N8
  rw [h, numR_dg _ (by decide), h5, Int.emod_eq_of_lt (by omega) (by omega)]
theorem drop_len {α : Type} {l a b : List α} {n : Nat} (h : l.drop n = a ++ b) (ha : a ≠ []) : n + a.length + b.length = l.length := by
  have := congrArg List.length h
  rw [List.length_drop, List.length_append] at this
  have : 0 < a.length := List.length_pos_iff.2 ha
  omega
/-- What stands at the place of a field. -/
structure BodyAt (bs : List Int) (at_ : Nat) (ds : List Int) : Prop where
  n4 : N4 bs at_ = (ds.length : Int)
  nb : NB bs at_ = ds.length
  ds : (bs.drop (at_ + 4)).take ds.length = ds
  pads : ∀ x ∈ padsOf bs at_, x = 0
theorem body_at {bs ds rest : List Int} {at_ : Nat} (h : bs.drop at_ = fieldB ds ++ rest) (hd : ds.length ≤ 1048576) : BodyAt bs at_ ds := by
  unfold fieldB at h
  rw [List.append_assoc, List.append_assoc] at h
  have hl4 : (dg (IntKind.u64.wrap (ds.length : Int)) 4).length = 4 := dg_len _ _
  have n4 : N4 bs at_ = (ds.length : Int) := N4_of (by rw [h, List.take_append_of_le_length (by omega), List.take_of_length_le (by omega)]) (by omega)
  have nb : NB bs at_ = ds.length := by unfold NB; omega
  have d4 : bs.drop (at_ + 4) = ds ++ (List.replicate (padN ds.length) 0 ++ rest) := by
    rw [← List.drop_drop, h, List.drop_append_of_le_length (by omega), List.drop_of_length_le (by omega), List.nil_append]
  refine ⟨n4, nb, by rw [d4, List.take_append_of_le_length (Nat.le_refl _), List.take_length], fun x hx => ?_⟩
  unfold padsOf at hx
  rw [nb, ← List.drop_drop, d4, List.drop_append_of_le_length (Nat.le_refl _), List.drop_length, List.nil_append, List.take_append_of_le_length (by rw [List.length_replicate]; exact Nat.le_refl _)] at hx
  exact (List.mem_replicate.1 (List.mem_of_mem_take hx)).2
theorem strBytes_byts (s : ByteArray) : Byts (strBytes s) := fun x hx => by
  unfold strBytes at hx
  obtain ⟨b, _, rfl⟩ := List.mem_map.1 hx
  have := b.toNat_lt
  omega
theorem strBytes_inj {a b : ByteArray} (h : strBytes a = strBytes b) : a = b := by
  unfold strBytes at h
  have h2 : a.data.toList = b.data.toList := List.map_inj_right (fun x y e => UInt8.toNat_inj.1 (by omega)) |>.1 h
  cases a; cases b
  congr 1
  exact Array.toList_inj.1 h2
theorem strOf_bytes (s : ByteArray) : strOf (strBytes s) = s := strBytes_inj (strBytes_of (strBytes_byts s))
theorem drop_more {m rest enc : List Int} {at_ : Nat} (h : m.drop at_ = enc ++ rest) : rest = m.drop (at_ + enc.length) := by
  rw [← List.drop_drop, h, List.drop_left]
theorem drop_fits {m rest enc : List Int} {at_ : Nat} (h : m.drop at_ = enc ++ rest) (h0 : enc ≠ []) : at_ + enc.length ≤ m.length := by
  have := drop_len h h0
  omega
theorem ne_len {l : List Int} {n : Nat} (h : l.length = n + 1) : l ≠ [] := by
  rintro rfl
  cases h
section
variable {m rest : List Int} {at_ : Nat}
theorem u32_fwd {x most : Int} (h : m.drop at_ = p32 x ++ rest) (hx : 0 ≤ x ∧ x ≤ most) (hm : most ≤ 4294967295) : U32R m at_ 0 most = (x, at_ + 4, 0) := by
  have hf := drop_fits h (ne_len (p32_len x))
  rw [p32_len] at hf
  have hn : N4 m at_ = x := N4_of (by rw [h, List.take_append_of_le_length (by rw [p32_len]; exact Nat.le_refl _), List.take_of_length_le (by rw [p32_len]; exact Nat.le_refl _)]; rfl) (by omega)
  unfold U32R
  rw [if_neg (by simp), if_neg (by omega), hn, if_pos hx.2]
theorem u64_fwd {x : Int} (h : m.drop at_ = p64 x ++ rest) (hx : 0 ≤ x ∧ x ≤ 9223372036854775807) : U64R m at_ 0 mst64 = (x, at_ + 8, 0) := by
  have hf := drop_fits h (ne_len (p64_len x))
  rw [p64_len] at hf
  have hw : IntKind.u64.wrap x = x := u64_in (by omega)
  have hn : N8 m at_ = x := N8_of (by rw [h, List.take_append_of_le_length (by rw [p64_len]; exact Nat.le_refl _), List.take_of_length_le (by rw [p64_len]; exact Nat.le_refl _)]; unfold p64; rw [hw]) (by omega)
  unfold U64R
  rw [if_neg (by simp), if_neg (by omega), hn, if_pos ⟨by decide, by rw [u64_in (by decide)]; exact hx.2⟩, wrapI_in (by omega)]
theorem sum_fwd {x : Int} (h : m.drop at_ = dg x 8 ++ rest) (hx : 0 ≤ x ∧ x ≤ 18446744073709551615) : N8 m at_ = x := by
  exact N8_of (by rw [h, List.take_append_of_le_length (by rw [dg_len]; exact Nat.le_refl _), List.take_of_length_le (by rw [dg_len]; exact Nat.le_refl _)]) hx
theorem flag_fwd (b : Bool) (h : m.drop at_ = p32 (if b then 1 else 0) ++ rest) : FlagR m at_ 0 = (b, at_ + 4, 0) := by
  have hf := drop_fits h (ne_len (p32_len _))
  rw [p32_len] at hf
  have hn : numR ((m.drop at_).take 4) = if b then 1 else 0 := by
    rw [h, List.take_append_of_le_length (by rw [p32_len]; exact Nat.le_refl _), List.take_of_length_le (by rw [p32_len]; exact Nat.le_refl _)]
    unfold p32
    rw [numR_dg _ (by decide), u64_in (by cases b <;> decide)]
    cases b <;> decide
  unfold FlagR
  rw [if_neg (by simp), if_neg (by omega), hn]
  cases b <;> rfl
theorem body_fwd {ds : List Int} {most : Int} (h : m.drop at_ = fieldB ds ++ rest) (hd : (ds.length : Int) ≤ most) (hm : most ≤ 1048576) : BodyR m at_ 0 most = (ds, at_ + (fieldB ds).length, 0) := by
  have hB := body_at h (by omega)
  have hfl : (fieldB ds).length = 4 + ds.length + padN ds.length := by
    unfold fieldB
    rw [List.length_append, List.length_append, dg_len, List.length_replicate]
  have hf := drop_fits h (by intro e; rw [e] at hfl; simp at hfl; omega)
  have he : bodyE m at_ most = 0 := by
    unfold bodyE
    rw [hB.n4, hB.nb, if_neg (by omega), if_neg (by omega), if_neg (by omega), if_neg (by omega), if_pos hB.pads]
  unfold BodyR
  rw [if_neg (by simp), if_pos he, hB.nb, hB.ds, hfl]
  congr 2
  omega
end
end Go.Proofs.YtfolhmlldoepfaaGreatDoor
namespace Go.Proofs.YtfolhmlldoepfaaGreatDoor
open Go Go.Proofs Go.RowKit
set_option maxRecDepth 4000
def RqF.set (q r : ReqV) : RqF → ReqV
  | .id => { q with id := r.id }
  | .off => { q with off := r.off }
  | .len _ => { q with len := r.len }
  | .path => { q with path := r.path }
  | .name _ => { q with name := r.name }
  | .id2 => { q with id2 := r.id2 }
  | .name2 => { q with name2 := r.name2 }
  | .data => q
def RqF.setD (d ds : List Int) : RqF → List Int
  | .data => ds
  | _ => d
theorem pth_size2 {s : ByteArray} (h : isPth s = true) : s.size ≤ 384 := by
  unfold isPth at h
  have h := of_decide_eq_true h
  unfold spl at h
  split at h
  · cases h
  · split at h
    · rename_i h2
      rw [ba_size, h2]
      decide
    · unfold Nm.splitV at h
      split at h
      · cases h
      · rename_i h3
        split at h
        · rename_i h4
          have hall : ∀ x ∈ Nm.partsL s.data.toList, x.length + 1 ≤ 24 := fun x hx => by
            unfold Nm.faultOf at h4
            split at h4
            · rename_i h5
              have := List.all_eq_true.1 h5 ⟨x.toArray⟩ (List.mem_map_of_mem (f := fun l : List UInt8 => (⟨l.toArray⟩ : ByteArray)) hx)
              have h6 := nm_size (by simpa using this)
              rw [ba_size] at h6
              have h7 : x.length ≤ 23 := by simpa using h6
              omega
            · cases h4
          have h8 := parts_len _ s.data.toList (Nat.le_refl _)
          have h9 := sum_le (fun x : List UInt8 => x.length + 1) 24 (Nm.partsL s.data.toList) hall
          have h10 : (Nm.partsB s).length = (Nm.partsL s.data.toList).length := by unfold Nm.partsB; rw [List.length_map]
          rw [ba_size, h8]
          omega
        · cases h
theorem text_fwd {m rest : List Int} {at_ : Nat} {s : ByteArray} {most : Int} (h : m.drop at_ = fieldB (strBytes s) ++ rest) (hs : (s.size : Int) ≤ most) (hm : most ≤ 1048576) : BodyR m at_ 0 most = (strBytes s, at_ + (fieldB (strBytes s)).length, 0) :=
  body_fwd h (by rw [strBytes_len]; exact hs) hm
/-- The lengths that may be. -/
def lenOk : RqF → Prop
  | .len l => l ≤ 4294967295
  | _ => True
theorem takeQ_fwd {m rest ds : List Int} {r : ReqV} {x : TkQ} (f : RqF) (hlk : lenOk f) (hx : x.er = 0) (h : m.drop x.at_ = f.enc r ds ++ rest) (hok : f.ok r = true) (hd : ds.length = r.dv.len) :
    f.take m x = ⟨f.set x.r r, f.setD x.ds ds, x.at_ + (f.enc r ds).length, 0⟩ := by
  obtain ⟨q, d, at_, er⟩ := x
  dsimp only at hx h ⊢
  subst hx
  cases f with
  | id =>
    have ho := of_decide_eq_true (show decide (1 ≤ r.id ∧ r.id ≤ 562949953421311) = true from hok)
    simp only [RqF.take, RqF.enc, RqF.set, RqF.setD] at h ⊢
    rw [u64_fwd h (by omega), p64_len]
  | off =>
    have ho : (decide (0 ≤ r.off) && decide (r.off ≤ 69632)) = true := hok
    rw [Bool.and_eq_true, decide_eq_true_iff, decide_eq_true_iff] at ho
    simp only [RqF.take, RqF.enc, RqF.set, RqF.setD] at h ⊢
    rw [u32_fwd h (most := mst32) ⟨ho.1, by show r.off ≤ 4294967295; omega⟩ (Int.le_refl _), p32_len]
  | len l =>
    have ho : (decide (1 ≤ r.len) && decide (r.len ≤ l)) = true := hok
    rw [Bool.and_eq_true, decide_eq_true_iff, decide_eq_true_iff] at ho
    simp only [RqF.take, RqF.enc, RqF.set, RqF.setD] at h ⊢
    have hl : l ≤ 4294967295 := hlk
    rw [u32_fwd h (most := mst32) ⟨by omega, by show r.len ≤ 4294967295; omega⟩ (Int.le_refl _), p32_len]
  | path =>
    have ho := pth_size2 (show isPth r.path = true from hok)
    simp only [RqF.take, RqF.enc, RqF.set, RqF.setD] at h ⊢
    rw [text_fwd h (by omega) (by decide), strOf_bytes]
  | name b =>
    have ho : r.name.size ≤ 23 := by
      cases b with
      | false => exact nm_size2 hok
      | true => exact nmN_size hok
    simp only [RqF.take, RqF.enc, RqF.set, RqF.setD] at h ⊢
    rw [text_fwd h (by omega) (by decide), strOf_bytes]
  | id2 =>
    have ho := of_decide_eq_true (show decide (1 ≤ r.id2 ∧ r.id2 ≤ 562949953421311) = true from hok)
    simp only [RqF.take, RqF.enc, RqF.set, RqF.setD] at h ⊢
    rw [u64_fwd h (by omega), p64_len]
  | name2 =>
    have ho := nm_size2 (show isNm r.name2 = true from hok)
    simp only [RqF.take, RqF.enc, RqF.set, RqF.setD] at h ⊢
    rw [text_fwd h (by omega) (by decide), strOf_bytes]
  | data =>
    have ho : (decide (1 ≤ r.dv.len) && decide (r.dv.len ≤ 1024)) = true := hok
    rw [Bool.and_eq_true, decide_eq_true_iff, decide_eq_true_iff] at ho
    simp only [RqF.take, RqF.enc, RqF.set, RqF.setD] at h ⊢
    rw [body_fwd h (by omega) (by decide)]
theorem takeQs_fwd {m ds : List Int} {r : ReqV} (hd : ds.length = r.dv.len) : ∀ (fs : List RqF) {rest : List Int} {x : TkQ}, x.er = 0 → m.drop x.at_ = encQ r ds fs ++ rest → (∀ f ∈ fs, f.ok r = true) → (∀ f ∈ fs, lenOk f) →
    takeQs m x fs = ⟨fs.foldl (fun q f => f.set q r) x.r, fs.foldl (fun d f => f.setD d ds) x.ds, x.at_ + (encQ r ds fs).length, 0⟩
  | [], _, ⟨q, d, at_, er⟩, hx, _, _, _ => by
    obtain rfl : er = 0 := hx
    rfl
  | f :: fs, rest, x, hx, h, hok, hlk => by
    have he : encQ r ds (f :: fs) = f.enc r ds ++ encQ r ds fs := rfl
    rw [he, List.append_assoc] at h
    have h1 := takeQ_fwd f (hlk f (.head _)) hx h (hok f (.head _)) hd
    have h2 := takeQs_fwd hd fs (rest := rest) (x := f.take m x) (by rw [h1]) (by rw [h1]; exact (drop_more h).symm) (fun g hg => hok g (.tail _ hg)) (fun g hg => hlk g (.tail _ hg))
    show takeQs m (f.take m x) fs = _
    rw [h2, h1, he, List.length_append, Nat.add_assoc]
    rfl
theorem nilS_eq {s : ByteArray} (h : nilS s = true) : s = ⟨#[]⟩ := toList_inj (by simpa [nilS] using h)
/-- What is read of a request's bytes. -/
def ReqV.bare (r : ReqV) (n : Nat) : ReqV := { r with dv := ⟨none, n, 0⟩ }
theorem set_all {r : ReqV} {ds : List Int} (hd : ds.length = r.dv.len) (ho : 1 ≤ r.op ∧ r.op ≤ 10) (hz : (clrAll r (rqFs r.op)).zeroB = true) :
    (rqFs r.op).foldl (fun q f => f.set q r) ⟨r.client, r.seq, r.ack, r.epoch, r.op, 0, 0, 0, 0, ⟨#[]⟩, ⟨#[]⟩, ⟨#[]⟩, ⟨none, 0, 0⟩⟩ = { r with dv := ⟨none, 0, 0⟩ } ∧ (rqFs r.op).foldl (fun d f => f.setD d ds) [] = ds := by
  obtain ⟨client, seq, ack, epoch, op, id, id2, off, len, path, name, name2, ⟨da, dn, dc⟩⟩ := r
  dsimp only at hd ho hz ⊢
  have hc : op = 1 ∨ op = 2 ∨ op = 3 ∨ op = 4 ∨ op = 5 ∨ op = 6 ∨ op = 7 ∨ op = 8 ∨ op = 9 ∨ op = 10 := by omega
  rcases hc with rfl | rfl | rfl | rfl | rfl | rfl | rfl | rfl | rfl | rfl <;>
  · simp only [rqFs, askQ, Int.reduceToNat, List.getElem?_cons_succ, List.getElem?_cons_zero, Option.getD_some, List.map_cons, List.map_nil, fldAt, clrAll, List.foldl_cons, List.foldl_nil, RqF.clr, RqF.set, RqF.setD, ReqV.zeroB, Bool.and_eq_true, decide_eq_true_eq] at hz ⊢
    obtain ⟨⟨⟨⟨⟨⟨⟨h1, h2⟩, h3⟩, h4⟩, h5⟩, h6⟩, h7⟩, h8⟩ := hz
    have h5 := nilS_eq h5
    have h6 := nilS_eq h6
    have h7 := nilS_eq h7
    first
      | (have e := List.eq_nil_of_length_eq_zero (hd.trans h8); subst_vars; exact ⟨rfl, rfl⟩)
      | (clear hd; subst_vars; exact ⟨rfl, rfl⟩)
      | (clear hd; subst_vars; exact ⟨rfl, trivial⟩)
theorem rqFs_lenOk (op : Int) : ∀ f ∈ rqFs op, lenOk f := by
  intro f hf
  unfold rqFs at hf
  obtain ⟨k, _, rfl⟩ := List.mem_map.1 hf
  unfold fldAt
  split <;> first | trivial | (show (if _ then (16 : Int) else 1024) ≤ 4294967295; split <;> decide)
def RqF.cap : RqF → Nat
  | .id => 8
  | .off => 4
  | .len _ => 4
  | .path => 391
  | .name _ => 30
  | .id2 => 8
  | .name2 => 30
  | .data => 1031
theorem enc_cap {r : ReqV} {ds : List Int} (hd : ds.length = r.dv.len) (f : RqF) (hok : f.ok r = true) : (f.enc r ds).length ≤ f.cap := by
  have text : ∀ (s : ByteArray) (n : Nat), s.size ≤ n → (fieldB (strBytes s)).length ≤ n + 7 := fun s n h => by
    have h1 := fieldB_lens (strBytes s)
    have h2 := strBytes_len s
    omega
  cases f with
  | id => exact Nat.le_of_eq (p64_len _)
  | off => exact Nat.le_of_eq (p32_len _)
  | len l => exact Nat.le_of_eq (p32_len _)
  | path => exact text _ 384 (pth_size2 hok)
  | name b => cases b with
    | false => exact text _ 23 (nm_size2 hok)
    | true => exact text _ 23 (nmN_size hok)
  | id2 => exact Nat.le_of_eq (p64_len _)
  | name2 => exact text _ 23 (nm_size2 hok)
  | data =>
    have ho : (decide (1 ≤ r.dv.len) && decide (r.dv.len ≤ 1024)) = true := hok
    rw [Bool.and_eq_true, decide_eq_true_iff, decide_eq_true_iff] at ho
    have h1 := fieldB_lens ds
    show (fieldB ds).length ≤ 1031
    omega
theorem encQ_cap {r : ReqV} {ds : List Int} (hd : ds.length = r.dv.len) : ∀ fs : List RqF, (∀ f ∈ fs, f.ok r = true) → (encQ r ds fs).length ≤ (fs.map RqF.cap).sum
  | [], _ => Nat.le_refl _
  | f :: fs, h => by
    have h1 := enc_cap hd f (h f (.head _))
    have h2 := encQ_cap hd fs fun g hg => h g (.tail _ hg)
    show (f.enc r ds ++ encQ r ds fs).length ≤ _
    rw [List.length_append, List.map_cons, List.sum_cons]
    omega
theorem rqFs_cap {op : Int} (ho : 1 ≤ op ∧ op ≤ 10) : ((rqFs op).map RqF.cap).sum ≤ 1100 := by
  have hc : op = 1 ∨ op = 2 ∨ op = 3 ∨ op = 4 ∨ op = 5 ∨ op = 6 ∨ op = 7 ∨ op = 8 ∨ op = 9 ∨ op = 10 := by omega
  rcases hc with rfl | rfl | rfl | rfl | rfl | rfl | rfl | rfl | rfl | rfl <;> decide
theorem sumR_in : ∀ (bs : List Int) (h : Int), 0 ≤ h ∧ h ≤ 18446744073709551615 → 0 ≤ sumR h bs ∧ sumR h bs ≤ 18446744073709551615
  | [], _, hh => hh
  | x :: bs, h, _ => by
    refine sumR_in bs (stepS h x) ?_
    unfold stepS
    rw [wrapU_eq]
    omega
theorem sum0_in (bs : List Int) : 0 ≤ sumR off0 bs ∧ sumR off0 bs ≤ 18446744073709551615 := sumR_in bs off0 (by decide)
/-- What is sealed is opened. -/
theorem open_sealed {B : List Int} {mg : ByteArray} (hm : strOf (B.take 4) = mg) (h4 : 4 ≤ B.length) (hl : B.length ≤ 1392) : openE (sealed B) mg = 0 ∧ midB (sealed B) = B.drop 4 := by
  have hsl : (sealed B).length = B.length + 8 := by unfold sealed; rw [List.length_append, dg_len]
  have ht4 : (sealed B).take 4 = B.take 4 := by unfold sealed; rw [List.take_append_of_le_length h4]
  have e8 : (sealed B).length - 8 = B.length := by omega
  have htB : (sealed B).take B.length = B := by unfold sealed; rw [List.take_left]
  have hdB : (sealed B).drop B.length = dg (sumR off0 B) 8 := by unfold sealed; rw [List.drop_left]
  refine ⟨?_, ?_⟩
  · unfold openE
    rw [if_neg (by omega), if_neg, if_neg]
    · rintro (h | h)
      · omega
      · rw [e8, htB, hdB] at h
        exact h (sum_fwd (rest := []) (by rw [List.drop_zero, List.append_nil]) (sum0_in B))
    · rintro (h | h)
      · omega
      · rw [ht4, hm, beq_self_eq_true] at h
        cases h
  · unfold midB
    rw [hsl]
    unfold sealed
    rw [List.drop_append_of_le_length h4, List.take_append_of_le_length (by rw [List.length_drop]; omega), List.take_of_length_le (by rw [List.length_drop]; omega)]
theorem hdQ_len (r : ReqV) : (hdQ r).length = 36 := by unfold hdQ; simp [p32_len, p64_len]
theorem hdQ_fwd {m rest : List Int} {r : ReqV} (h : m = (hdQ r).drop 4 ++ rest) (hh : r.head = 0) :
    hdQ0 m = ⟨⟨r.client, r.seq, r.ack, r.epoch, r.op, 0, 0, 0, 0, ⟨#[]⟩, ⟨#[]⟩, ⟨#[]⟩, ⟨none, 0, 0⟩⟩, [], 32, 0⟩ := by
  have ht : top = 4611686018427387904 := rfl
  have hr : (0 ≤ r.client ∧ r.client < 8) ∧ (1 ≤ r.seq ∧ r.seq ≤ top ∧ 0 ≤ r.ack ∧ r.ack < r.seq) ∧ (0 ≤ r.epoch ∧ r.epoch ≤ top) ∧ (1 ≤ r.op ∧ r.op ≤ 10) := by
    unfold ReqV.head at hh
    split at hh
    · cases hh
    · split at hh
      · cases hh
      · split at hh
        · cases hh
        · split at hh
          · cases hh
          · omega
  obtain ⟨r1, r2, r3, r4⟩ := hr
  have hm : m = p32 r.client ++ (p64 r.seq ++ (p64 r.ack ++ (p64 r.epoch ++ (p32 r.op ++ rest)))) := by
    rw [h]
    unfold hdQ
    simp only [List.append_assoc]
    rfl
  have h1 : m.drop 0 = p32 r.client ++ (p64 r.seq ++ (p64 r.ack ++ (p64 r.epoch ++ (p32 r.op ++ rest)))) := by rw [List.drop_zero]; exact hm
  have h2 : m.drop 4 = p64 r.seq ++ (p64 r.ack ++ (p64 r.epoch ++ (p32 r.op ++ rest))) := by have h := (drop_more h1).symm; rw [p32_len] at h; exact h
  have h3 : m.drop 12 = p64 r.ack ++ (p64 r.epoch ++ (p32 r.op ++ rest)) := by have h := (drop_more h2).symm; rw [p64_len] at h; exact h
  have h4 : m.drop 20 = p64 r.epoch ++ (p32 r.op ++ rest) := by have h := (drop_more h3).symm; rw [p64_len] at h; exact h
  have h5 : m.drop 28 = p32 r.op ++ rest := by have h := (drop_more h4).symm; rw [p64_len] at h; exact h
  have e1 : U32R m 0 0 mst32 = (r.client, 4, 0) := u32_fwd h1 ⟨r1.1, by show r.client ≤ 4294967295; omega⟩ (Int.le_refl _)
  have e2 : U64R m 4 0 mst64 = (r.seq, 12, 0) := u64_fwd h2 (by omega)
  have e3 : U64R m 12 0 mst64 = (r.ack, 20, 0) := u64_fwd h3 (by omega)
  have e4 : U64R m 20 0 mst64 = (r.epoch, 28, 0) := u64_fwd h4 (by omega)
  have e5 : U32R m 28 0 mst32 = (r.op, 32, 0) := u32_fwd h5 ⟨by omega, by show r.op ≤ 4294967295; omega⟩ (Int.le_refl _)
  unfold hdQ0
  simp only [e1, e2, e3, e4, e5]
theorem bare_chk (r : ReqV) {n : Nat} (h : n = r.dv.len) : (r.bare n).chk = r.chk := r.chk_dv ⟨none, n, 0⟩ h
theorem strOf_mgQ : strOf [65, 78, 81, 49] = mgQ := rfl
theorem strOf_mgR : strOf [65, 78, 82, 49] = mgR := rfl
theorem hdQ_take (r : ReqV) (l : List Int) : (hdQ r ++ l).take 4 = [65, 78, 81, 49] := by
  unfold hdQ
  simp only [List.append_assoc]
  rfl
/-- THE WAY THERE AND BACK. -/
theorem decQ_enc {r : ReqV} {ds : List Int} (hd : ds.length = r.dv.len) (h : r.chk = 0) : decQ (encReq r ds) = (r.bare ds.length, ds, 0) ∧ (encReq r ds).length ≤ 1400 ∧ (encReq r ds).take 4 = [65, 78, 81, 49] ∧ 12 ≤ (encReq r ds).length := by
  obtain ⟨hh, hok, hz⟩ := chk_ok h
  have ho := head_op hh
  have he : encReq r ds = sealed (hdQ r ++ encQ r ds (rqFs r.op)) := by unfold encReq; rw [if_pos h]
  have hc1 := encQ_cap hd (rqFs r.op) hok
  have hc2 := rqFs_cap ho
  have hl : (hdQ r ++ encQ r ds (rqFs r.op)).length ≤ 1392 := by rw [List.length_append, hdQ_len]; omega
  have hl4 : 4 ≤ (hdQ r ++ encQ r ds (rqFs r.op)).length := by rw [List.length_append, hdQ_len]; omega
  obtain ⟨o1, o2⟩ := open_sealed (mg := mgQ) (by rw [hdQ_take]; exact strOf_mgQ) hl4 hl
  have hm : midB (encReq r ds) = (hdQ r).drop 4 ++ encQ r ds (rqFs r.op) := by
    rw [he, o2, List.drop_append_of_le_length (by rw [hdQ_len]; decide)]
  have hml : ((hdQ r).drop 4).length = 32 := by rw [List.length_drop, hdQ_len]
  have hx0 := hdQ_fwd hm hh
  obtain ⟨m, hmm⟩ : ∃ m, midB (encReq r ds) = m := ⟨_, rfl⟩
  rw [hmm] at hm hx0
  have hdr : m.drop 32 = encQ r ds (rqFs r.op) ++ [] := by
    rw [hm, List.append_nil, List.drop_append_of_le_length (by omega), List.drop_of_length_le (by omega), List.nil_append]
  have ht := takeQs_fwd (m := m) hd (rqFs r.op) (rest := []) (x := ⟨⟨r.client, r.seq, r.ack, r.epoch, r.op, 0, 0, 0, 0, ⟨#[]⟩, ⟨#[]⟩, ⟨#[]⟩, ⟨none, 0, 0⟩⟩, [], 32, 0⟩) rfl hdr hok (rqFs_lenOk _)
  obtain ⟨s1, s2⟩ := set_all hd ho hz
  dsimp only at ht
  rw [s1, s2] at ht
  have hlm : m.length = 32 + (encQ r ds (rqFs r.op)).length := by rw [hm, List.length_append, hml]
  have hsl : (encReq r ds).length = (hdQ r ++ encQ r ds (rqFs r.op)).length + 8 := by rw [he]; unfold sealed; rw [List.length_append, dg_len]
  refine ⟨?_, by omega, ?_, by rw [hsl, List.length_append, hdQ_len]; omega⟩
  · unfold decQ
    rw [hmm, he, o1, if_neg (by simp), hx0]
    dsimp only
    rw [if_neg (by simp), if_neg (by
      show ¬ (r.head ≠ 0)
      simp [hh]), ht]
    unfold finQ
    dsimp only
    have hcl : CloseR m (32 + (encQ r ds (rqFs r.op)).length) 0 = 0 := if_neg (fun h => by omega)
    have hfin : (⟨{ r with dv := ⟨none, 0, 0⟩ }, ds, 32 + (encQ r ds (rqFs r.op)).length, 0⟩ : TkQ).fin = r.bare ds.length := rfl
    rw [hcl, if_neg (by simp), hfin, bare_chk r hd, h, if_neg (by simp)]
  · rw [he]
    unfold sealed
    rw [List.take_append_of_le_length hl4, hdQ_take]
end Go.Proofs.YtfolhmlldoepfaaGreatDoor
namespace Go.Proofs.YtfolhmlldoepfaaGreatDoor
open Go Go.Proofs Go.RowKit
set_option maxRecDepth 4000
end Go.Proofs.YtfolhmlldoepfaaGreatDoor
namespace Go.Proofs.YtfolhmlldoepfaaGreatDoor
open Go Go.Proofs Go.RowKit
set_option maxRecDepth 4000
theorem p32_cut {m rest : List Int} {at_ : Nat} {x : Int} (h : m.drop at_ = p32 x ++ rest) : m.drop (at_ + 4) = rest := by
  have h := (drop_more h).symm
  rw [p32_len] at h
  exact h
theorem p64_cut {m rest : List Int} {at_ : Nat} {x : Int} (h : m.drop at_ = p64 x ++ rest) : m.drop (at_ + 8) = rest := by
  have h := (drop_more h).symm
  rw [p64_len] at h
  exact h
theorem entT_fwd {m rest : List Int} {l : List EntV} {at_ : Nat} {e : EntV} (h : m.drop at_ = entEnc e ++ rest) (hn : e.name.size ≤ 23) (hi : 0 ≤ e.id ∧ e.id ≤ 562949953421311) (hk : 0 ≤ e.kind ∧ e.kind ≤ 2) :
    entT m (l, at_, 0) = (l ++ [e], at_ + (entEnc e).length, 0) := by
  unfold entEnc at h ⊢
  rw [List.append_assoc, List.append_assoc] at h
  have h1 := text_fwd (most := 23) h (by omega) (by decide)
  have h2 := (drop_more h).symm
  have h3 := u64_fwd h2 (by omega)
  have h4 := p64_cut h2
  have h5 := u32_fwd h4 (most := mst32) ⟨hk.1, by show e.kind ≤ 4294967295; omega⟩ (Int.le_refl _)
  unfold entT
  dsimp only
  rw [h1]
  dsimp only
  rw [h3]
  dsimp only
  rw [h5, strOf_bytes, List.length_append, List.length_append, p64_len, p32_len]
  rfl
theorem entsT_fwd {m rest : List Int} {at_ : Nat} {es : List EntV} (h : m.drop at_ = es.flatMap entEnc ++ rest) (hes : ∀ e ∈ es, e.name.size ≤ 23 ∧ (0 ≤ e.id ∧ e.id ≤ 562949953421311) ∧ 0 ≤ e.kind ∧ e.kind ≤ 2) :
    ∀ n, n ≤ es.length → entsT m n ([], at_, 0) = (es.take n, at_ + ((es.take n).flatMap entEnc).length, 0)
  | 0, _ => rfl
  | n + 1, hn => by
    have ih := entsT_fwd h hes n (by omega)
    obtain ⟨e, he⟩ : ∃ e, es[n]? = some e := ⟨_, List.getElem?_eq_getElem (by omega)⟩
    have hsp : es.flatMap entEnc = (es.take n).flatMap entEnc ++ (entEnc e ++ (es.drop (n + 1)).flatMap entEnc) := by
      conv => lhs; rw [← List.take_append_drop n es, List.drop_eq_getElem_cons (by omega), List.flatMap_append, List.flatMap_cons]
      rw [show es[n] = e from (List.getElem?_eq_some_iff.1 he).2]
    rw [hsp, List.append_assoc, List.append_assoc] at h
    have h2 := (drop_more h).symm
    obtain ⟨k1, k2, k3⟩ := hes e (List.mem_iff_getElem?.2 ⟨n, he⟩)
    show entT m (entsT m n ([], at_, 0)) = _
    rw [ih, entT_fwd h2 k1 k2 k3, List.take_add_one, he, List.flatMap_append, List.length_append, Nat.add_assoc]
    simp
def RepV.bare (r : RepV) (n k : Nat) : RepV := { r with dv := ⟨none, n, 0⟩, lv := ⟨none, k, 0⟩ }
theorem bareP_chk (r : RepV) (es : List EntV) {n k : Nat} (h : n = r.dv.len) (hk : k = r.lv.len) : (r.bare n k).chk es = r.chk es := r.chk_dv es ⟨none, n, 0⟩ ⟨none, k, 0⟩ h hk
theorem listB_ok : ∀ (es : List EntV) (p : Option EntV), listB p es = true → ∀ e ∈ es, e.name.size ≤ 23 ∧ (0 ≤ e.id ∧ e.id ≤ 562949953421311) ∧ 0 ≤ e.kind ∧ e.kind ≤ 2
  | e :: es, p, h, e', he => by
    unfold listB at h
    rw [Bool.and_eq_true] at h
    rcases List.mem_cons.1 he with rfl | he
    · have h1 := h.1
      unfold entB at h1
      simp only [Bool.and_eq_true, Bool.or_eq_true, decide_eq_true_eq] at h1
      have h2 := of_decide_eq_true (show decide (1 ≤ e'.id ∧ e'.id ≤ 562949953421311) = true from h1.1.1.2)
      refine ⟨nm_size2 h1.1.1.1, by omega, ?_⟩
      rcases h1.1.2 with h | h <;> omega
    · exact listB_ok es _ h.2 e' he
theorem attr_ok {op id kind size change : Int} (h : attrB op id kind size change = true) : (0 ≤ id ∧ id ≤ 562949953421311) ∧ (0 ≤ kind ∧ kind ≤ 2) ∧ (0 ≤ size ∧ size ≤ 69632) ∧ 0 ≤ change ∧ change ≤ 4611686018427387904 := by
  have ht : top = 4611686018427387904 := rfl
  unfold attrB at h
  have h := of_decide_eq_true h
  omega
theorem hdP_len (r : RepV) : (hdP r).length = 32 := by unfold hdP; simp [p32_len, p64_len]
theorem isSt_in {e : Int} (h : isSt e = true) : 0 ≤ e ∧ e ≤ 152 := by
  have h := of_decide_eq_true h
  omega
theorem headP_in {r : RepV} (hh : r.head = 0) : (0 ≤ r.client ∧ r.client < 8) ∧ (1 ≤ r.seq ∧ r.seq ≤ 4611686018427387904) ∧ (1 ≤ r.epoch ∧ r.epoch ≤ 4611686018427387904) ∧ (1 ≤ r.op ∧ r.op ≤ 10) ∧ isSt r.status = true := by
  have ht : top = 4611686018427387904 := rfl
  unfold RepV.head at hh
  split at hh
  · cases hh
  · split at hh
    · cases hh
    · split at hh
      · cases hh
      · split at hh
        · cases hh
        · split at hh
          · cases hh
          · rename_i h5
            refine ⟨by omega, by omega, by omega, by omega, ?_⟩
            cases h6 : isSt r.status with
            | true => rfl
            | false => exact absurd h6 h5
theorem hdP_fwd {m rest : List Int} {r : RepV} (h : m = (hdP r).drop 4 ++ rest) (hh : r.head = 0) :
    hdP0 m = ⟨⟨r.client, r.seq, r.epoch, r.op, r.status, 0, 0, 0, 0, ⟨none, 0, 0⟩, ⟨none, 0, 0⟩, false⟩, [], [], 28, 0, false⟩ := by
  obtain ⟨r1, r2, r3, r4, r5⟩ := headP_in hh
  have r6 := isSt_in r5
  have hm : m = p32 r.client ++ (p64 r.seq ++ (p64 r.epoch ++ (p32 r.op ++ (p32 r.status ++ rest)))) := by
    rw [h]
    unfold hdP
    simp only [List.append_assoc]
    rfl
  have h1 : m.drop 0 = p32 r.client ++ (p64 r.seq ++ (p64 r.epoch ++ (p32 r.op ++ (p32 r.status ++ rest)))) := by rw [List.drop_zero]; exact hm
  have h2 : m.drop 4 = _ := p32_cut h1
  have h3 : m.drop 12 = _ := p64_cut h2
  have h4 : m.drop 20 = _ := p64_cut h3
  have h5 : m.drop 24 = _ := p32_cut h4
  have e1 : U32R m 0 0 mst32 = (r.client, 4, 0) := u32_fwd h1 ⟨r1.1, by show r.client ≤ 4294967295; omega⟩ (Int.le_refl _)
  have e2 : U64R m 4 0 mst64 = (r.seq, 12, 0) := u64_fwd h2 (by omega)
  have e3 : U64R m 12 0 mst64 = (r.epoch, 20, 0) := u64_fwd h3 (by omega)
  have e4 : U32R m 20 0 mst32 = (r.op, 24, 0) := u32_fwd h4 ⟨by omega, by show r.op ≤ 4294967295; omega⟩ (Int.le_refl _)
  have e5 : U32R m 24 0 mst32 = (r.status, 28, 0) := u32_fwd h5 ⟨by omega, by show r.status ≤ 4294967295; omega⟩ (Int.le_refl _)
  unfold hdP0
  simp only [e1, e2, e3, e4, e5]
theorem rpFs_ways (r : RepV) (ho : 1 ≤ r.op ∧ r.op ≤ 10) : rpFs' r = [] ∨ rpFs' r = [.attr r.op] ∨ rpFs' r = [.attr r.op, .cont] ∨ rpFs' r = [.list, .more] := by
  unfold rpFs'
  split
  · obtain ⟨op, hop⟩ : ∃ op, r.op = op := ⟨_, rfl⟩
    rw [hop] at ho ⊢
    have hc : op = 1 ∨ op = 2 ∨ op = 3 ∨ op = 4 ∨ op = 5 ∨ op = 6 ∨ op = 7 ∨ op = 8 ∨ op = 9 ∨ op = 10 := by omega
    rcases hc with rfl | rfl | rfl | rfl | rfl | rfl | rfl | rfl | rfl | rfl <;> first | exact .inl rfl | exact .inr (.inl rfl) | exact .inr (.inr (.inl rfl)) | exact .inr (.inr (.inr rfl))
  · exact .inl rfl
theorem attrT_fwd {m rest ds : List Int} {es : List EntV} {r : RepV} {x : TkP} {o : Int} (hx : x.er = 0) (h : m.drop x.at_ = (RpF.attr o).enc r ds es ++ rest) (hok : attrB o r.aid r.akind r.asize r.achange = true) :
    (RpF.attr o).take m x = ⟨{ x.r with aid := r.aid, akind := r.akind, asize := r.asize, achange := r.achange }, x.ds, x.es, x.at_ + 24, 0, x.ov⟩ := by
  obtain ⟨k1, k2, k3, k4⟩ := attr_ok hok
  obtain ⟨q, d, l, at_, er, ov⟩ := x
  dsimp only at hx h ⊢
  subst hx
  have h1 : m.drop at_ = p64 r.aid ++ (p32 r.akind ++ (p32 r.asize ++ (p64 r.achange ++ rest))) := by
    rw [h]
    show (p64 _ ++ p32 _ ++ p32 _ ++ p64 _) ++ rest = _
    simp only [List.append_assoc]
  have h2 := p64_cut h1
  have h3 := p32_cut h2
  have h4 := p32_cut h3
  have e1 := u64_fwd h1 (by omega)
  have e2 := u32_fwd h2 (most := mst32) ⟨k2.1, by show r.akind ≤ 4294967295; omega⟩ (Int.le_refl _)
  have e3 := u32_fwd h3 (most := mst32) ⟨k3.1, by show r.asize ≤ 4294967295; omega⟩ (Int.le_refl _)
  have e4 := u64_fwd h4 (by omega)
  simp only [RpF.take, e1, e2, e3, e4]
theorem zeroP_eq {r : RepV} (h : r.zeroB = true) : (r.aid = 0 ∧ r.akind = 0 ∧ r.asize = 0 ∧ r.achange = 0) ∧ r.dv.len = 0 ∧ r.lv.len = 0 ∧ r.more = false := by
  unfold RepV.zeroB at h
  rw [Bool.and_eq_true, Bool.and_eq_true, Bool.and_eq_true, decide_eq_true_iff, decide_eq_true_iff, decide_eq_true_iff] at h
  exact ⟨h.1.1.1, h.1.1.2, h.1.2, by simpa using h.2⟩
theorem encRep_take {r : RepV} {ds : List Int} {es : List EntV} (hd : ds.length = r.dv.len) (hl : es.length = r.lv.len) (h : r.chk es = 0) {m : List Int} (hm : m.drop 28 = encP r ds es (rpFs' r)) :
    takePs m ⟨⟨r.client, r.seq, r.epoch, r.op, r.status, 0, 0, 0, 0, ⟨none, 0, 0⟩, ⟨none, 0, 0⟩, false⟩, [], [], 28, 0, false⟩ (rpFs' r) = ⟨{ r with dv := ⟨none, 0, 0⟩, lv := ⟨none, 0, 0⟩ }, ds, es, 28 + (encP r ds es (rpFs' r)).length, 0, false⟩ ∧ (encP r ds es (rpFs' r)).length ≤ 1100 := by
  obtain ⟨hh, hok, hz⟩ := chkP_ok h
  have ho := headP_op hh
  have hcl : clrP' r = clrAllP r (rpFs' r) := rfl
  rw [hcl] at hz
  obtain ⟨client, seq, epoch, op, status, aid, akind, asize, achange, ⟨da, dn, dc⟩, ⟨la, ln, lc⟩, more⟩ := r
  obtain ⟨r, hr⟩ : ∃ r : RepV, r = ⟨client, seq, epoch, op, status, aid, akind, asize, achange, ⟨da, dn, dc⟩, ⟨la, ln, lc⟩, more⟩ := ⟨_, rfl⟩
  rw [← hr] at hm hok hz ho ⊢
  rcases rpFs_ways r ho with hw | hw | hw | hw
  all_goals rw [hw] at hm hok hz ⊢
  · rw [hr] at hz
    obtain ⟨z0, z5', z6', z7'⟩ := zeroP_eq hz
    have z1 : aid = 0 := z0.1
    have z2 : akind = 0 := z0.2.1
    have z3 : asize = 0 := z0.2.2.1
    have z4 : achange = 0 := z0.2.2.2
    have z5 : dn = 0 := z5'
    have z6 : ln = 0 := z6'
    have z7 : more = false := z7'
    dsimp only at hd hl
    obtain rfl := List.eq_nil_of_length_eq_zero (hd.trans z5)
    obtain rfl := List.eq_nil_of_length_eq_zero (hl.trans z6)
    subst_vars
    exact ⟨rfl, Nat.zero_le _⟩
  · have ha := hok (.attr r.op) (.head _)
    rw [hr] at hz
    obtain ⟨_, z5', z6', z7'⟩ := zeroP_eq hz
    have z5 : dn = 0 := z5'
    have z6 : ln = 0 := z6'
    have z7 : more = false := z7'
    dsimp only at hd hl
    obtain rfl := List.eq_nil_of_length_eq_zero (hd.trans z5)
    obtain rfl := List.eq_nil_of_length_eq_zero (hl.trans z6)
    have hen : (encP r [] [] [.attr r.op]).length = 24 := by
      show (p64 _ ++ p32 _ ++ p32 _ ++ p64 _ ++ []).length = 24
      simp only [List.length_append, p64_len, p32_len, List.length_nil]
    have := attrT_fwd (m := m) (rest := []) (ds := []) (es := []) (r := r) (o := r.op) (x := ⟨⟨r.client, r.seq, r.epoch, r.op, r.status, 0, 0, 0, 0, ⟨none, 0, 0⟩, ⟨none, 0, 0⟩, false⟩, [], [], 28, 0, false⟩) rfl hm ha
    refine ⟨?_, by omega⟩
    show (RpF.attr r.op).take m _ = _
    rw [this, hen]
    dsimp only
    rw [hr]
    subst_vars
    rfl
  · have ha := hok (.attr r.op) (.head _)
    have hc := of_decide_eq_true (show decide (r.dv.len ≤ 1024) = true from hok .cont (.tail _ (.head _)))
    rw [hr] at hz
    obtain ⟨_, _, z6', z7'⟩ := zeroP_eq hz
    have z6 : ln = 0 := z6'
    have z7 : more = false := z7'
    dsimp only at hl
    obtain rfl := List.eq_nil_of_length_eq_zero (hl.trans z6)
    have hds : ds.length ≤ 1024 := by rw [hr] at hc; exact hd ▸ hc
    have hf := fieldB_lens ds
    have he : encP r ds [] [.attr r.op, .cont] = (RpF.attr r.op).enc r ds [] ++ (fieldB ds ++ []) := rfl
    rw [he] at hm
    have h24 : ((RpF.attr r.op).enc r ds []).length = 24 := by
      show (p64 _ ++ p32 _ ++ p32 _ ++ p64 _).length = 24
      simp only [List.length_append, p64_len, p32_len]
    have h1 := attrT_fwd (m := m) (ds := ds) (es := []) (r := r) (o := r.op) (x := ⟨⟨r.client, r.seq, r.epoch, r.op, r.status, 0, 0, 0, 0, ⟨none, 0, 0⟩, ⟨none, 0, 0⟩, false⟩, [], [], 28, 0, false⟩) rfl hm ha
    have h2 := (drop_more hm).symm
    rw [h24] at h2
    have h3 := body_fwd h2 (most := 1024) (by omega) (by decide)
    refine ⟨?_, by rw [he, List.length_append, List.length_append, h24]; simp only [List.length_nil]; omega⟩
    show RpF.cont.take m ((RpF.attr r.op).take m _) = _
    rw [h1, he, List.length_append, h24, List.append_nil]
    simp only [RpF.take]
    rw [h3]
    dsimp only
    rw [hr]
    subst_vars
    rw [Nat.add_assoc]
  · have ha : (listB none es && decide (es.length ≤ 16)) = true := hok .list (.head _)
    rw [Bool.and_eq_true, decide_eq_true_iff] at ha
    rw [hr] at hz
    obtain ⟨z0, z5', _, _⟩ := zeroP_eq hz
    have z1 : aid = 0 := z0.1
    have z2 : akind = 0 := z0.2.1
    have z3 : asize = 0 := z0.2.2.1
    have z4 : achange = 0 := z0.2.2.2
    have z5 : dn = 0 := z5'
    dsimp only at hd
    obtain rfl := List.eq_nil_of_length_eq_zero (hd.trans z5)
    have hlo := listB_ok es none ha.1
    have hll := list_len es (listB_nm es none ha.1)
    have he : encP r [] es [.list, .more] = (p32 (es.length : Int) ++ es.flatMap entEnc) ++ (p32 (if r.more then 1 else 0) ++ []) := rfl
    rw [he, List.append_assoc] at hm
    have e1 := u32_fwd hm (most := mst32) ⟨by omega, by show (es.length : Int) ≤ 4294967295; omega⟩ (Int.le_refl _)
    have h2 := p32_cut hm
    have e2 := entsT_fwd h2 hlo es.length (Nat.le_refl _)
    rw [List.take_length] at e2
    have h3 := (drop_more h2).symm
    have e3 := flag_fwd r.more h3
    have hlen : (encP r [] es [.list, .more]).length = 8 + (es.flatMap entEnc).length := by
      rw [he]
      simp only [List.length_append, p32_len, List.length_nil]
      omega
    refine ⟨?_, by omega⟩
    show RpF.more.take m (RpF.list.take m _) = _
    rw [hlen]
    simp only [RpF.take, e1]
    rw [if_neg (by omega), Int.toNat_natCast, e2]
    dsimp only
    rw [e3, hr]
    subst_vars
    dsimp only
    congr 1
    omega
theorem hdP_take (r : RepV) (l : List Int) : (hdP r ++ l).take 4 = [65, 78, 82, 49] := by
  unfold hdP
  simp only [List.append_assoc]
  rfl
/-- THE WAY THERE AND BACK. -/
theorem decP_enc {r : RepV} {ds : List Int} {es : List EntV} (hd : ds.length = r.dv.len) (hl : es.length = r.lv.len) (h : r.chk es = 0) : decP (encRep r ds es) = (r.bare ds.length es.length, ds, es, 0) ∧ (encRep r ds es).length ≤ 1400 ∧ (encRep r ds es).take 4 = [65, 78, 82, 49] ∧ 12 ≤ (encRep r ds es).length := by
  obtain ⟨hh, hok, hz⟩ := chkP_ok h
  have ho := headP_op hh
  have he : encRep r ds es = sealed (hdP r ++ encP r ds es (rpFs' r)) := by unfold encRep; rw [if_pos h]
  have hm0 : ((hdP r).drop 4 ++ encP r ds es (rpFs' r)).drop 28 = encP r ds es (rpFs' r) := by
    have hml : ((hdP r).drop 4).length = 28 := by rw [List.length_drop, hdP_len]
    rw [List.drop_append_of_le_length (by omega), List.drop_of_length_le (by omega), List.nil_append]
  obtain ⟨ht, hc1⟩ := encRep_take hd hl h hm0
  have hl8 : (hdP r ++ encP r ds es (rpFs' r)).length ≤ 1392 := by rw [List.length_append, hdP_len]; omega
  have hl4 : 4 ≤ (hdP r ++ encP r ds es (rpFs' r)).length := by rw [List.length_append, hdP_len]; omega
  obtain ⟨o1, o2⟩ := open_sealed (mg := mgR) (by rw [hdP_take]; exact strOf_mgR) hl4 hl8
  have hm : midB (encRep r ds es) = (hdP r).drop 4 ++ encP r ds es (rpFs' r) := by
    rw [he, o2, List.drop_append_of_le_length (by rw [hdP_len]; decide)]
  rw [← hm] at ht
  have hx0 := hdP_fwd hm hh
  have hlm : (midB (encRep r ds es)).length = 28 + (encP r ds es (rpFs' r)).length := by rw [hm, List.length_append, List.length_drop, hdP_len]
  obtain ⟨m, hmm⟩ : ∃ m, midB (encRep r ds es) = m := ⟨_, rfl⟩
  rw [hmm] at ht hx0 hlm
  have hsl : (encRep r ds es).length = (hdP r ++ encP r ds es (rpFs' r)).length + 8 := by rw [he]; unfold sealed; rw [List.length_append, dg_len]
  refine ⟨?_, by omega, ?_, by rw [hsl, List.length_append, hdP_len]; omega⟩
  · unfold decP
    rw [hmm, he, o1, if_neg (by simp), hx0]
    dsimp only
    rw [if_neg (by simp), if_neg (by
      show ¬ (r.head ≠ 0)
      simp [hh])]
    rw [show rpFs' ⟨r.client, r.seq, r.epoch, r.op, r.status, 0, 0, 0, 0, ⟨none, 0, 0⟩, ⟨none, 0, 0⟩, false⟩ = rpFs' r from rfl, ht]
    unfold finP
    dsimp only
    have hcl : CloseR m (28 + (encP r ds es (rpFs' r)).length) 0 = 0 := if_neg (fun h => by omega)
    have hfin : (⟨{ r with dv := ⟨none, 0, 0⟩, lv := ⟨none, 0, 0⟩ }, ds, es, 28 + (encP r ds es (rpFs' r)).length, 0, false⟩ : TkP).fin = r.bare ds.length es.length := rfl
    rw [if_neg Bool.false_ne_true, hcl, if_neg (by simp), hfin, bareP_chk r es hd hl, h, if_neg (by simp)]
  · rw [he]
    unfold sealed
    rw [List.take_append_of_le_length hl4, hdP_take]
end Go.Proofs.YtfolhmlldoepfaaGreatDoor
namespace Go.Proofs.YtfolhmlldoepfaaGreatDoor
open Go Go.Proofs Go.RowKit
set_option maxRecDepth 4000
theorem sealed_byts {B : List Int} (h : Byts B) : Byts (sealed B) := fun x hx => by
  unfold sealed at hx
  rcases List.mem_append.1 hx with hx | hx
  · exact h x hx
  · exact dg_byts _ _ x hx
end Go.Proofs.YtfolhmlldoepfaaGreatDoor
