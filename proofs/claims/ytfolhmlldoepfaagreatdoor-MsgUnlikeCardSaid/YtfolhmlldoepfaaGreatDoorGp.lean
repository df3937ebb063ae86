import Derived.Test.YtfolhmlldoepfaaGreatDoorGo
import Derived.Test.YtfolhmlldoepfaaGreatDoorGr
namespace Go.Proofs.YtfolhmlldoepfaaGreatDoor
open Go Go.Proofs Go.RowKit
set_option maxRecDepth 4000
theorem toList_beq (a b : ByteArray) : (a.toList == b.toList) = decide (a = b) := by
  by_cases h : a = b
  · rw [h, decide_eq_true rfl]; exact beq_self_eq_true _
  · rw [decide_eq_false h]
    exact beq_eq_false_iff_ne.2 (fun e => h (toList_inj e))
deriving instance DecidableEq for EntV
def sameQ (a b : ReqV) (da db : List Int) : Bool := decide (da = db ∧ (a.client = b.client ∧ a.seq = b.seq ∧ a.ack = b.ack ∧ a.epoch = b.epoch ∧ a.op = b.op) ∧ a.id = b.id ∧ a.id2 = b.id2 ∧ a.off = b.off ∧ a.len = b.len ∧ a.path = b.path ∧ a.name = b.name ∧ a.name2 = b.name2)
def sameP (a b : RepV) (da db : List Int) (ea eb : List EntV) : Bool := decide (da = db ∧ ea = eb ∧ (a.aid = b.aid ∧ a.akind = b.akind ∧ a.asize = b.asize ∧ a.achange = b.achange) ∧ a.client = b.client ∧ a.seq = b.seq ∧ a.epoch = b.epoch ∧ a.op = b.op ∧ a.status = b.status ∧ a.more = b.more)
theorem sameAttr (a1 a2 a3 a4 b1 b2 b3 b4 : Int) : Spec0 Tryz.prog 63 [.agg #[.int .i64 a1, .int .i64 a2, .int .i64 a3, .int .i64 a4], .agg #[.int .i64 b1, .int .i64 b2, .int .i64 b3, .int .i64 b4]] (.bool (decide (a1 = b1 ∧ a2 = b2 ∧ a3 = b3 ∧ a4 = b4))) := by
  refine spec_of Tryz.func63 rfl rfl (Nat.le_of_ble_eq_true rfl) (fun w F => ?_)
  (refine Zl rfl ?_; (refine h_box rfl rfl rfl rfl rfl rfl (fun _ => ?_)); refine hx_plain rfl ?_; (refine h_box rfl rfl rfl rfl rfl rfl (fun _ => ?_)); refine Zn rfl rfl rfl rfl rfl ?_; refine Zl rfl ?_; refine h_fieldAddr0 rfl rfl FC.out rfl rfl ?_; refine hx_plain rfl ?_; refine h_load rfl rfl UC.out rfl (.tail .head) rfl rfl rfl ?_; refine Zf rfl rfl rfl rfl rfl ?_; refine hx_plain rfl ?_; refine h_load rfl rfl UC.out rfl .head rfl rfl rfl ?_; refine Zc rfl rfl rfl rfl rfl rfl rfl ?_; refine Zm rfl rfl rfl rfl rfl ?_; refine hx_gcaseD rfl rfl rfl (fun hc => ?_) (fun hc => ?_); refine hx_yes rfl rfl rfl ?_; refine h_fieldAddr0 rfl rfl FC.out rfl rfl ?_; refine hx_yes rfl rfl rfl ?_; refine h_load rfl rfl UC.out rfl (.tail .head) rfl rfl rfl ?_; refine hx_yes rfl rfl rfl ?_; refine h_fieldAddr0 rfl rfl FC.out rfl rfl ?_; refine hx_yes rfl rfl rfl ?_; refine h_load rfl rfl UC.out rfl .head rfl rfl rfl ?_; refine hx_yes rfl rfl rfl ?_; refine h_cmp rfl rfl rfl rfl rfl rfl ?_; refine Zq rfl rfl rfl rfl rfl rfl ?_; refine Zm rfl rfl rfl rfl rfl ?_; refine hx_gcaseD rfl rfl rfl (fun hc => ?_) (fun hc => ?_); refine hx_yes rfl rfl rfl ?_; refine h_fieldAddr0 rfl rfl FC.out rfl rfl ?_; refine hx_yes rfl rfl rfl ?_; refine h_load rfl rfl UC.out rfl (.tail .head) rfl rfl rfl ?_; refine hx_yes rfl rfl rfl ?_; refine h_fieldAddr0 rfl rfl FC.out rfl rfl ?_; refine hx_yes rfl rfl rfl ?_; refine h_load rfl rfl UC.out rfl .head rfl rfl rfl ?_; refine hx_yes rfl rfl rfl ?_; refine h_cmp rfl rfl rfl rfl rfl rfl ?_; refine Zq rfl rfl rfl rfl rfl rfl ?_; refine Zm rfl rfl rfl rfl rfl ?_; refine hx_gcaseD rfl rfl rfl (fun hc => ?_) (fun hc => ?_); refine hx_yes rfl rfl rfl ?_; refine h_fieldAddr0 rfl rfl FC.out rfl rfl ?_; refine hx_yes rfl rfl rfl ?_; refine h_load rfl rfl UC.out rfl (.tail .head) rfl rfl rfl ?_; refine hx_yes rfl rfl rfl ?_; refine h_fieldAddr0 rfl rfl FC.out rfl rfl ?_; refine hx_yes rfl rfl rfl ?_; refine h_load rfl rfl UC.out rfl .head rfl rfl rfl ?_; refine hx_yes rfl rfl rfl ?_; refine h_cmp rfl rfl rfl rfl rfl rfl ?_; refine Zq rfl rfl rfl rfl rfl rfl ?_; (iterate 2 (refine Zn rfl rfl rfl rfl rfl ?_; refine hc_ret ?_; rotate_left; (iterate 5 (refine hx_skip rfl rfl rfl rfl rfl rfl ?_)); refine Zp rfl rfl rfl rfl rfl rfl ?_)); refine Zm rfl rfl rfl rfl rfl ?_; (iterate 5 (refine hx_skip rfl rfl rfl rfl rfl rfl ?_)); refine Zp rfl rfl rfl rfl rfl rfl ?_; refine Zn rfl rfl rfl rfl rfl ?_; refine hc_ret ?_; rotate_left; (iterate 2 ((iterate 5 (refine hx_skip rfl rfl rfl rfl rfl rfl ?_)); refine Zp rfl rfl rfl rfl rfl rfl ?_; refine Zm rfl rfl rfl rfl rfl ?_)); (iterate 5 (refine hx_skip rfl rfl rfl rfl rfl rfl ?_)); refine Zp rfl rfl rfl rfl rfl rfl ?_; refine Zn rfl rfl rfl rfl rfl ?_; refine hc_ret ?_; rotate_left)
  all_goals (refine hq_ret1 (.inr rfl) rfl rfl ⟨congrArg Value.bool ?_, rfl⟩ (fun _ h => h.emp); first | (rw [decide_eq_decide]; simp_all; done) | (simp_all; done))
theorem num_spec (e : Int) : Spec0 Tryz.prog 64 [.int .i64 e] (.int .i64 e) := by
  refine spec_of Tryz.func64 rfl rfl (Nat.le_of_ble_eq_true rfl) (fun w F => ?_)
  (refine Zl rfl ?_; refine h_assign rfl rfl rfl rfl ?_; refine Zt ?_; refine Zl rfl ?_; refine h_move rfl rfl rfl rfl ?_; refine Zn rfl rfl rfl rfl rfl ?_; refine hc_ret ?_)
  exact hq_ret1 (.inr rfl) rfl rfl ⟨rfl, rfl⟩ (fun _ h => h.emp)
theorem lnum_spec (e : Int) : Spec0 Tryz.prog 18 [.int .i64 e] (.int .i64 e) := by
  refine spec_of Tryz.func18 rfl rfl (Nat.le_of_ble_eq_true rfl) (fun w F => ?_)
  (refine Zl rfl ?_; refine h_assign rfl rfl rfl rfl ?_; refine Zt ?_; refine Zl rfl ?_; refine h_move rfl rfl rfl rfl ?_; refine Zn rfl rfl rfl rfl rfl ?_; refine hc_ret ?_)
  exact hq_ret1 (.inr rfl) rfl rfl ⟨rfl, rfl⟩ (fun _ h => h.emp)
set_option maxHeartbeats 4000000 in
theorem sameRequest {a b : ReqV} {da db : List Int} {w : World} (h1 : Rd byteE w a.dv.v da) (h2 : Rd byteE w b.dv.v db) : Calls Tryz.prog 32 [.agg a.cs, .agg b.cs].toArray w (fun en w' => en = .returned (.bool (sameQ a b da db)) ∧ But w w' nowhere) := by
  obtain ⟨client, seq, ack, epoch, op, id, id2, off, len, path, name, name2, ⟨ad, an, ac⟩⟩ := a
  obtain ⟨client', seq', ack', epoch', op', id', id2', off', len', path', name', name2', ⟨bd, bn, bc⟩⟩ := b
  dsimp only [ReqV.cs, SlV.v] at h1 h2 ⊢
  unfold sameQ
  dsimp only
  refine reads_of Tryz.func32 rfl rfl (Nat.le_of_ble_eq_true rfl) ?_
  (refine Zl rfl ?_; (refine h_box rfl rfl rfl rfl rfl rfl (fun _ => ?_)); refine hx_plain rfl ?_; (refine h_box rfl rfl rfl rfl rfl rfl (fun _ => ?_)); refine Zn rfl rfl rfl rfl rfl ?_; refine Zl rfl ?_; refine h_fieldAddr0 rfl rfl FC.out rfl rfl ?_; refine hx_plain rfl ?_; refine h_load rfl rfl UC.out rfl (.tail .head) rfl rfl rfl ?_; refine Zf rfl rfl rfl rfl rfl ?_; refine hx_plain rfl ?_; refine h_load rfl rfl UC.out rfl .head rfl rfl rfl ?_; refine hx_plain rfl ?_)
  refine h_callRd rfl rfl rfl rfl rfl rfl EC.out (fun w' h => sameBytes (h.rd h1) (h.rd h2)) ?_
  by_cases q1 : da = db
  · rw [decide_eq_true q1]
    (refine Zn rfl rfl rfl rfl rfl ?_; refine Zl rfl ?_; refine h_fieldAddr0 rfl rfl FC.out rfl rfl ?_; refine hx_plain rfl ?_; refine h_load rfl rfl UC.out rfl (.tail .head) rfl rfl rfl ?_; refine Zf rfl rfl rfl rfl rfl ?_; refine hx_plain rfl ?_; refine h_load rfl rfl UC.out rfl .head rfl rfl rfl ?_; refine Zc rfl rfl rfl rfl rfl rfl rfl ?_; refine Zm rfl rfl rfl rfl rfl ?_; refine hx_gcaseD rfl rfl rfl (fun hc => ?_) (fun hc => ?_); refine hx_yes rfl rfl rfl ?_; refine h_fieldAddr0 rfl rfl FC.out rfl rfl ?_; refine hx_yes rfl rfl rfl ?_; refine h_load rfl rfl UC.out rfl (.tail .head) rfl rfl rfl ?_; refine hx_yes rfl rfl rfl ?_; refine h_fieldAddr0 rfl rfl FC.out rfl rfl ?_; refine hx_yes rfl rfl rfl ?_; refine h_load rfl rfl UC.out rfl .head rfl rfl rfl ?_; refine hx_yes rfl rfl rfl ?_; refine h_cmp rfl rfl rfl rfl rfl rfl ?_; refine Zq rfl rfl rfl rfl rfl rfl ?_; refine Zm rfl rfl rfl rfl rfl ?_; refine hx_gcaseD rfl rfl rfl (fun hc => ?_) (fun hc => ?_); refine hx_yes rfl rfl rfl ?_; refine h_fieldAddr0 rfl rfl FC.out rfl rfl ?_; refine hx_yes rfl rfl rfl ?_; refine h_load rfl rfl UC.out rfl (.tail .head) rfl rfl rfl ?_; refine hx_yes rfl rfl rfl ?_; refine h_fieldAddr0 rfl rfl FC.out rfl rfl ?_; refine hx_yes rfl rfl rfl ?_; refine h_load rfl rfl UC.out rfl .head rfl rfl rfl ?_; refine hx_yes rfl rfl rfl ?_; refine h_cmp rfl rfl rfl rfl rfl rfl ?_; refine Zq rfl rfl rfl rfl rfl rfl ?_; refine Zm rfl rfl rfl rfl rfl ?_; refine hx_gcaseD rfl rfl rfl (fun hc => ?_) (fun hc => ?_); refine hx_yes rfl rfl rfl ?_; refine h_fieldAddr0 rfl rfl FC.out rfl rfl ?_; refine hx_yes rfl rfl rfl ?_; refine h_load rfl rfl UC.out rfl (.tail .head) rfl rfl rfl ?_; refine hx_yes rfl rfl rfl ?_; refine h_fieldAddr0 rfl rfl FC.out rfl rfl ?_; refine hx_yes rfl rfl rfl ?_; refine h_load rfl rfl UC.out rfl .head rfl rfl rfl ?_; refine hx_yes rfl rfl rfl ?_; refine h_cmp rfl rfl rfl rfl rfl rfl ?_; refine Zq rfl rfl rfl rfl rfl rfl ?_; refine Zm rfl rfl rfl rfl rfl ?_; refine hx_gcaseD rfl rfl rfl (fun hc => ?_) (fun hc => ?_); refine hx_yes rfl rfl rfl ?_; refine h_fieldAddr0 rfl rfl FC.out rfl rfl ?_; refine hx_yes rfl rfl rfl ?_; refine h_load rfl rfl UC.out rfl (.tail .head) rfl rfl rfl ?_; refine hx_yes rfl rfl rfl ?_; refine h_fieldAddr0 rfl rfl FC.out rfl rfl ?_; refine hx_yes rfl rfl rfl ?_; refine h_load rfl rfl UC.out rfl .head rfl rfl rfl ?_; refine hx_yes rfl rfl rfl ?_; refine h_cmp rfl rfl rfl rfl rfl rfl ?_; refine Zq rfl rfl rfl rfl rfl rfl ?_; refine Zn rfl rfl rfl rfl rfl ?_; refine Zl rfl ?_; refine h_move rfl rfl rfl rfl ?_; refine Zm rfl rfl rfl rfl rfl ?_; refine hx_yes rfl rfl rfl ?_; refine h_move rfl rfl rfl rfl ?_; refine Zq rfl rfl rfl rfl rfl rfl ?_; refine Zm rfl rfl rfl rfl rfl ?_; refine hx_gcaseD rfl rfl rfl (fun hc => ?_) (fun hc => ?_); refine hx_yes rfl rfl rfl ?_; refine h_fieldAddr0 rfl rfl FC.out rfl rfl ?_; refine hx_yes rfl rfl rfl ?_; refine h_load rfl rfl UC.out rfl (.tail .head) rfl rfl rfl ?_; refine hx_yes rfl rfl rfl ?_; refine h_fieldAddr0 rfl rfl FC.out rfl rfl ?_; refine hx_yes rfl rfl rfl ?_; refine h_load rfl rfl UC.out rfl .head rfl rfl rfl ?_; refine hx_yes rfl rfl rfl ?_; refine h_cmp rfl rfl rfl rfl rfl rfl ?_; refine Zq rfl rfl rfl rfl rfl rfl ?_; refine Zm rfl rfl rfl rfl rfl ?_; refine hx_gcaseD rfl rfl rfl (fun hc => ?_) (fun hc => ?_); refine hx_yes rfl rfl rfl ?_; refine h_fieldAddr0 rfl rfl FC.out rfl rfl ?_; refine hx_yes rfl rfl rfl ?_; refine h_load rfl rfl UC.out rfl (.tail .head) rfl rfl rfl ?_; refine hx_yes rfl rfl rfl ?_; refine h_fieldAddr0 rfl rfl FC.out rfl rfl ?_; refine hx_yes rfl rfl rfl ?_; refine h_load rfl rfl UC.out rfl .head rfl rfl rfl ?_; refine hx_yes rfl rfl rfl ?_; refine h_cmp rfl rfl rfl rfl rfl rfl ?_; refine Zq rfl rfl rfl rfl rfl rfl ?_; refine Zm rfl rfl rfl rfl rfl ?_; refine hx_gcaseD rfl rfl rfl (fun hc => ?_) (fun hc => ?_); refine hx_yes rfl rfl rfl ?_; refine h_fieldAddr0 rfl rfl FC.out rfl rfl ?_; refine hx_yes rfl rfl rfl ?_; refine h_load rfl rfl UC.out rfl (.tail .head) rfl rfl rfl ?_; refine hx_yes rfl rfl rfl ?_; refine h_fieldAddr0 rfl rfl FC.out rfl rfl ?_; refine hx_yes rfl rfl rfl ?_; refine h_load rfl rfl UC.out rfl .head rfl rfl rfl ?_; refine hx_yes rfl rfl rfl ?_; refine h_cmp rfl rfl rfl rfl rfl rfl ?_; refine Zq rfl rfl rfl rfl rfl rfl ?_; refine Zm rfl rfl rfl rfl rfl ?_; refine hx_gcaseD rfl rfl rfl (fun hc => ?_) (fun hc => ?_); refine hx_yes rfl rfl rfl ?_; refine h_fieldAddr0 rfl rfl FC.out rfl rfl ?_; refine hx_yes rfl rfl rfl ?_; refine h_load rfl rfl UC.out rfl (.tail .head) rfl rfl rfl ?_; refine hx_yes rfl rfl rfl ?_; refine h_fieldAddr0 rfl rfl FC.out rfl rfl ?_; refine hx_yes rfl rfl rfl ?_; refine h_load rfl rfl UC.out rfl .head rfl rfl rfl ?_; refine hx_yes rfl rfl rfl ?_; refine h_cmp rfl rfl rfl rfl rfl rfl ?_; refine Zq rfl rfl rfl rfl rfl rfl ?_; refine Zm rfl rfl rfl rfl rfl ?_; refine hx_gcaseD rfl rfl rfl (fun hc => ?_) (fun hc => ?_); refine hx_yes rfl rfl rfl ?_; refine h_fieldAddr0 rfl rfl FC.out rfl rfl ?_; refine hx_yes rfl rfl rfl ?_; refine h_load rfl rfl UC.out rfl (.tail .head) rfl rfl rfl ?_; refine hx_yes rfl rfl rfl ?_; refine h_fieldAddr0 rfl rfl FC.out rfl rfl ?_; refine hx_yes rfl rfl rfl ?_; refine h_load rfl rfl UC.out rfl .head rfl rfl rfl ?_; refine hx_yes rfl rfl rfl ?_; refine h_cmpS rfl rfl rfl rfl rfl rfl ?_; refine Zq rfl rfl rfl rfl rfl rfl ?_; refine Zm rfl rfl rfl rfl rfl ?_; refine hx_gcase rfl rfl rfl (fun hc => ?_) (fun hc => ?_); refine hx_yes rfl rfl rfl ?_; refine h_fieldAddr0 rfl rfl FC.out rfl rfl ?_; refine hx_yes rfl rfl rfl ?_; refine h_load rfl rfl UC.out rfl (.tail .head) rfl rfl rfl ?_; refine hx_yes rfl rfl rfl ?_; refine h_fieldAddr0 rfl rfl FC.out rfl rfl ?_; refine hx_yes rfl rfl rfl ?_; refine h_load rfl rfl UC.out rfl .head rfl rfl rfl ?_; refine hx_yes rfl rfl rfl ?_; refine h_cmpS rfl rfl rfl rfl rfl rfl ?_; refine Zq rfl rfl rfl rfl rfl rfl ?_; refine Zm rfl rfl rfl rfl rfl ?_; refine hx_gcase rfl rfl rfl (fun hc => ?_) (fun hc => ?_); refine hx_yes rfl rfl rfl ?_; refine h_fieldAddr0 rfl rfl FC.out rfl rfl ?_; refine hx_yes rfl rfl rfl ?_; refine h_load rfl rfl UC.out rfl (.tail .head) rfl rfl rfl ?_; refine hx_yes rfl rfl rfl ?_; refine h_fieldAddr0 rfl rfl FC.out rfl rfl ?_; refine hx_yes rfl rfl rfl ?_; refine h_load rfl rfl UC.out rfl .head rfl rfl rfl ?_; refine hx_yes rfl rfl rfl ?_; refine h_cmpS rfl rfl rfl rfl rfl rfl ?_; refine Zq rfl rfl rfl rfl rfl rfl ?_; (iterate 2 (refine Zn rfl rfl rfl rfl rfl ?_; refine hc_ret ?_; rotate_left; (iterate 5 (refine hx_skip rfl rfl rfl rfl rfl rfl ?_)); refine Zp rfl rfl rfl rfl rfl rfl ?_)); refine Zm rfl rfl rfl rfl rfl ?_; (iterate 5 (refine hx_skip rfl rfl rfl rfl rfl rfl ?_)); refine Zp rfl rfl rfl rfl rfl rfl ?_; refine Zn rfl rfl rfl rfl rfl ?_; refine hc_ret ?_; rotate_left; (iterate 2 ((iterate 5 (refine hx_skip rfl rfl rfl rfl rfl rfl ?_)); refine Zp rfl rfl rfl rfl rfl rfl ?_; refine Zm rfl rfl rfl rfl rfl ?_)); (iterate 5 (refine hx_skip rfl rfl rfl rfl rfl rfl ?_)); refine Zp rfl rfl rfl rfl rfl rfl ?_; refine Zn rfl rfl rfl rfl rfl ?_; refine hc_ret ?_; rotate_left; (iterate 3 ((iterate 5 (refine hx_skip rfl rfl rfl rfl rfl rfl ?_)); refine Zp rfl rfl rfl rfl rfl rfl ?_; refine Zm rfl rfl rfl rfl rfl ?_)); (iterate 5 (refine hx_skip rfl rfl rfl rfl rfl rfl ?_)); refine Zp rfl rfl rfl rfl rfl rfl ?_; refine Zn rfl rfl rfl rfl rfl ?_; refine hc_ret ?_; rotate_left; (iterate 4 ((iterate 5 (refine hx_skip rfl rfl rfl rfl rfl rfl ?_)); refine Zp rfl rfl rfl rfl rfl rfl ?_; refine Zm rfl rfl rfl rfl rfl ?_)); (iterate 5 (refine hx_skip rfl rfl rfl rfl rfl rfl ?_)); refine Zp rfl rfl rfl rfl rfl rfl ?_; refine Zn rfl rfl rfl rfl rfl ?_; refine hc_ret ?_; rotate_left; (iterate 5 ((iterate 5 (refine hx_skip rfl rfl rfl rfl rfl rfl ?_)); refine Zp rfl rfl rfl rfl rfl rfl ?_; refine Zm rfl rfl rfl rfl rfl ?_)); (iterate 5 (refine hx_skip rfl rfl rfl rfl rfl rfl ?_)); refine Zp rfl rfl rfl rfl rfl rfl ?_; refine Zn rfl rfl rfl rfl rfl ?_; refine hc_ret ?_; rotate_left; (iterate 6 ((iterate 5 (refine hx_skip rfl rfl rfl rfl rfl rfl ?_)); refine Zp rfl rfl rfl rfl rfl rfl ?_; refine Zm rfl rfl rfl rfl rfl ?_)); (iterate 5 (refine hx_skip rfl rfl rfl rfl rfl rfl ?_)); refine Zp rfl rfl rfl rfl rfl rfl ?_; refine Zn rfl rfl rfl rfl rfl ?_; refine hc_ret ?_; rotate_left; (iterate 5 (refine hx_skip rfl rfl rfl rfl rfl rfl ?_)); refine Zp rfl rfl rfl rfl rfl rfl ?_; refine Zn rfl rfl rfl rfl rfl ?_; refine Zl rfl ?_; refine h_move rfl rfl rfl rfl ?_; refine Zm rfl rfl rfl rfl rfl ?_; refine hx_yes rfl rfl rfl ?_; refine h_move rfl rfl rfl rfl ?_; refine Zq rfl rfl rfl rfl rfl rfl ?_; (iterate 7 (refine Zm rfl rfl rfl rfl rfl ?_; (iterate 5 (refine hx_skip rfl rfl rfl rfl rfl rfl ?_)); refine Zp rfl rfl rfl rfl rfl rfl ?_)); refine Zn rfl rfl rfl rfl rfl ?_; refine hc_ret ?_; rotate_left; (iterate 5 (refine hx_skip rfl rfl rfl rfl rfl rfl ?_)); refine Zp rfl rfl rfl rfl rfl rfl ?_; refine Zm rfl rfl rfl rfl rfl ?_; (iterate 5 (refine hx_skip rfl rfl rfl rfl rfl rfl ?_)); refine Zp rfl rfl rfl rfl rfl rfl ?_; refine Zn rfl rfl rfl rfl rfl ?_; refine Zl rfl ?_; refine h_move rfl rfl rfl rfl ?_; refine Zm rfl rfl rfl rfl rfl ?_; refine hx_yes rfl rfl rfl ?_; refine h_move rfl rfl rfl rfl ?_; refine Zq rfl rfl rfl rfl rfl rfl ?_; (iterate 7 (refine Zm rfl rfl rfl rfl rfl ?_; (iterate 5 (refine hx_skip rfl rfl rfl rfl rfl rfl ?_)); refine Zp rfl rfl rfl rfl rfl rfl ?_)); refine Zn rfl rfl rfl rfl rfl ?_; refine hc_ret ?_; rotate_left; (iterate 2 ((iterate 5 (refine hx_skip rfl rfl rfl rfl rfl rfl ?_)); refine Zp rfl rfl rfl rfl rfl rfl ?_; refine Zm rfl rfl rfl rfl rfl ?_)); (iterate 5 (refine hx_skip rfl rfl rfl rfl rfl rfl ?_)); refine Zp rfl rfl rfl rfl rfl rfl ?_; refine Zn rfl rfl rfl rfl rfl ?_; refine Zl rfl ?_; refine h_move rfl rfl rfl rfl ?_; refine Zm rfl rfl rfl rfl rfl ?_; refine hx_yes rfl rfl rfl ?_; refine h_move rfl rfl rfl rfl ?_; refine Zq rfl rfl rfl rfl rfl rfl ?_; (iterate 7 (refine Zm rfl rfl rfl rfl rfl ?_; (iterate 5 (refine hx_skip rfl rfl rfl rfl rfl rfl ?_)); refine Zp rfl rfl rfl rfl rfl rfl ?_)); refine Zn rfl rfl rfl rfl rfl ?_; refine hc_ret ?_; rotate_left; (iterate 3 ((iterate 5 (refine hx_skip rfl rfl rfl rfl rfl rfl ?_)); refine Zp rfl rfl rfl rfl rfl rfl ?_; refine Zm rfl rfl rfl rfl rfl ?_)); (iterate 5 (refine hx_skip rfl rfl rfl rfl rfl rfl ?_)); refine Zp rfl rfl rfl rfl rfl rfl ?_; refine Zn rfl rfl rfl rfl rfl ?_; refine Zl rfl ?_; refine h_move rfl rfl rfl rfl ?_; refine Zm rfl rfl rfl rfl rfl ?_; refine hx_yes rfl rfl rfl ?_; refine h_move rfl rfl rfl rfl ?_; refine Zq rfl rfl rfl rfl rfl rfl ?_; (iterate 7 (refine Zm rfl rfl rfl rfl rfl ?_; (iterate 5 (refine hx_skip rfl rfl rfl rfl rfl rfl ?_)); refine Zp rfl rfl rfl rfl rfl rfl ?_)); refine Zn rfl rfl rfl rfl rfl ?_; refine hc_ret ?_; rotate_left)
    all_goals (refine hq_ret1 (.inr rfl) rfl rfl ⟨congrArg Value.bool ?_, rfl⟩ (fun _ h => h.emp); clear h1 h2; simp_all [toList_beq]; done)
  · rw [decide_eq_false q1]
    (refine Zn rfl rfl rfl rfl rfl ?_; refine Zl rfl ?_; refine h_fieldAddr0 rfl rfl FC.out rfl rfl ?_; refine hx_plain rfl ?_; refine h_load rfl rfl UC.out rfl (.tail .head) rfl rfl rfl ?_; refine Zf rfl rfl rfl rfl rfl ?_; refine hx_plain rfl ?_; refine h_load rfl rfl UC.out rfl .head rfl rfl rfl ?_; refine Zc rfl rfl rfl rfl rfl rfl rfl ?_; refine Zm rfl rfl rfl rfl rfl ?_; refine hx_gcaseD rfl rfl rfl (fun hc => ?_) (fun hc => ?_); refine hx_yes rfl rfl rfl ?_; refine h_fieldAddr0 rfl rfl FC.out rfl rfl ?_; refine hx_yes rfl rfl rfl ?_; refine h_load rfl rfl UC.out rfl (.tail .head) rfl rfl rfl ?_; refine hx_yes rfl rfl rfl ?_; refine h_fieldAddr0 rfl rfl FC.out rfl rfl ?_; refine hx_yes rfl rfl rfl ?_; refine h_load rfl rfl UC.out rfl .head rfl rfl rfl ?_; refine hx_yes rfl rfl rfl ?_; refine h_cmp rfl rfl rfl rfl rfl rfl ?_; refine Zq rfl rfl rfl rfl rfl rfl ?_; refine Zm rfl rfl rfl rfl rfl ?_; refine hx_gcaseD rfl rfl rfl (fun hc => ?_) (fun hc => ?_); refine hx_yes rfl rfl rfl ?_; refine h_fieldAddr0 rfl rfl FC.out rfl rfl ?_; refine hx_yes rfl rfl rfl ?_; refine h_load rfl rfl UC.out rfl (.tail .head) rfl rfl rfl ?_; refine hx_yes rfl rfl rfl ?_; refine h_fieldAddr0 rfl rfl FC.out rfl rfl ?_; refine hx_yes rfl rfl rfl ?_; refine h_load rfl rfl UC.out rfl .head rfl rfl rfl ?_; refine hx_yes rfl rfl rfl ?_; refine h_cmp rfl rfl rfl rfl rfl rfl ?_; refine Zq rfl rfl rfl rfl rfl rfl ?_; refine Zm rfl rfl rfl rfl rfl ?_; refine hx_gcaseD rfl rfl rfl (fun hc => ?_) (fun hc => ?_); refine hx_yes rfl rfl rfl ?_; refine h_fieldAddr0 rfl rfl FC.out rfl rfl ?_; refine hx_yes rfl rfl rfl ?_; refine h_load rfl rfl UC.out rfl (.tail .head) rfl rfl rfl ?_; refine hx_yes rfl rfl rfl ?_; refine h_fieldAddr0 rfl rfl FC.out rfl rfl ?_; refine hx_yes rfl rfl rfl ?_; refine h_load rfl rfl UC.out rfl .head rfl rfl rfl ?_; refine hx_yes rfl rfl rfl ?_; refine h_cmp rfl rfl rfl rfl rfl rfl ?_; refine Zq rfl rfl rfl rfl rfl rfl ?_; refine Zm rfl rfl rfl rfl rfl ?_; refine hx_gcaseD rfl rfl rfl (fun hc => ?_) (fun hc => ?_); refine hx_yes rfl rfl rfl ?_; refine h_fieldAddr0 rfl rfl FC.out rfl rfl ?_; refine hx_yes rfl rfl rfl ?_; refine h_load rfl rfl UC.out rfl (.tail .head) rfl rfl rfl ?_; refine hx_yes rfl rfl rfl ?_; refine h_fieldAddr0 rfl rfl FC.out rfl rfl ?_; refine hx_yes rfl rfl rfl ?_; refine h_load rfl rfl UC.out rfl .head rfl rfl rfl ?_; refine hx_yes rfl rfl rfl ?_; refine h_cmp rfl rfl rfl rfl rfl rfl ?_; refine Zq rfl rfl rfl rfl rfl rfl ?_; refine Zn rfl rfl rfl rfl rfl ?_; refine Zl rfl ?_; refine h_move rfl rfl rfl rfl ?_; refine Zm rfl rfl rfl rfl rfl ?_; (iterate 7 (refine hx_skip rfl rfl rfl rfl rfl rfl ?_; refine Zp rfl rfl rfl rfl rfl rfl ?_; refine Zm rfl rfl rfl rfl rfl ?_; (iterate 4 (refine hx_skip rfl rfl rfl rfl rfl rfl ?_)))); refine hx_skip rfl rfl rfl rfl rfl rfl ?_; refine Zp rfl rfl rfl rfl rfl rfl ?_; refine Zn rfl rfl rfl rfl rfl ?_; refine hc_ret ?_; rotate_left; (iterate 5 (refine hx_skip rfl rfl rfl rfl rfl rfl ?_)); refine Zp rfl rfl rfl rfl rfl rfl ?_; refine Zn rfl rfl rfl rfl rfl ?_; refine Zl rfl ?_; refine h_move rfl rfl rfl rfl ?_; refine Zm rfl rfl rfl rfl rfl ?_; (iterate 7 (refine hx_skip rfl rfl rfl rfl rfl rfl ?_; refine Zp rfl rfl rfl rfl rfl rfl ?_; refine Zm rfl rfl rfl rfl rfl ?_; (iterate 4 (refine hx_skip rfl rfl rfl rfl rfl rfl ?_)))); refine hx_skip rfl rfl rfl rfl rfl rfl ?_; refine Zp rfl rfl rfl rfl rfl rfl ?_; refine Zn rfl rfl rfl rfl rfl ?_; refine hc_ret ?_; rotate_left; (iterate 5 (refine hx_skip rfl rfl rfl rfl rfl rfl ?_)); refine Zp rfl rfl rfl rfl rfl rfl ?_; refine Zm rfl rfl rfl rfl rfl ?_; (iterate 5 (refine hx_skip rfl rfl rfl rfl rfl rfl ?_)); refine Zp rfl rfl rfl rfl rfl rfl ?_; refine Zn rfl rfl rfl rfl rfl ?_; refine Zl rfl ?_; refine h_move rfl rfl rfl rfl ?_; refine Zm rfl rfl rfl rfl rfl ?_; (iterate 7 (refine hx_skip rfl rfl rfl rfl rfl rfl ?_; refine Zp rfl rfl rfl rfl rfl rfl ?_; refine Zm rfl rfl rfl rfl rfl ?_; (iterate 4 (refine hx_skip rfl rfl rfl rfl rfl rfl ?_)))); refine hx_skip rfl rfl rfl rfl rfl rfl ?_; refine Zp rfl rfl rfl rfl rfl rfl ?_; refine Zn rfl rfl rfl rfl rfl ?_; refine hc_ret ?_; rotate_left; (iterate 2 ((iterate 5 (refine hx_skip rfl rfl rfl rfl rfl rfl ?_)); refine Zp rfl rfl rfl rfl rfl rfl ?_; refine Zm rfl rfl rfl rfl rfl ?_)); (iterate 5 (refine hx_skip rfl rfl rfl rfl rfl rfl ?_)); refine Zp rfl rfl rfl rfl rfl rfl ?_; refine Zn rfl rfl rfl rfl rfl ?_; refine Zl rfl ?_; refine h_move rfl rfl rfl rfl ?_; refine Zm rfl rfl rfl rfl rfl ?_; (iterate 7 (refine hx_skip rfl rfl rfl rfl rfl rfl ?_; refine Zp rfl rfl rfl rfl rfl rfl ?_; refine Zm rfl rfl rfl rfl rfl ?_; (iterate 4 (refine hx_skip rfl rfl rfl rfl rfl rfl ?_)))); refine hx_skip rfl rfl rfl rfl rfl rfl ?_; refine Zp rfl rfl rfl rfl rfl rfl ?_; refine Zn rfl rfl rfl rfl rfl ?_; refine hc_ret ?_; rotate_left; (iterate 3 ((iterate 5 (refine hx_skip rfl rfl rfl rfl rfl rfl ?_)); refine Zp rfl rfl rfl rfl rfl rfl ?_; refine Zm rfl rfl rfl rfl rfl ?_)); (iterate 5 (refine hx_skip rfl rfl rfl rfl rfl rfl ?_)); refine Zp rfl rfl rfl rfl rfl rfl ?_; refine Zn rfl rfl rfl rfl rfl ?_; refine Zl rfl ?_; refine h_move rfl rfl rfl rfl ?_; refine Zm rfl rfl rfl rfl rfl ?_; (iterate 7 (refine hx_skip rfl rfl rfl rfl rfl rfl ?_; refine Zp rfl rfl rfl rfl rfl rfl ?_; refine Zm rfl rfl rfl rfl rfl ?_; (iterate 4 (refine hx_skip rfl rfl rfl rfl rfl rfl ?_)))); refine hx_skip rfl rfl rfl rfl rfl rfl ?_; refine Zp rfl rfl rfl rfl rfl rfl ?_; refine Zn rfl rfl rfl rfl rfl ?_; refine hc_ret ?_; rotate_left)
    all_goals (refine hq_ret1 (.inr rfl) rfl rfl ⟨congrArg Value.bool ?_, rfl⟩ (fun _ h => h.emp); clear h1 h2; simp_all [toList_beq]; done)
set_option maxHeartbeats 4000000 in
theorem sameEntries {xs ys : List EntV} {w : World} {v1 v2 : Value} (h1 : Rd entE w v1 xs) (h2 : Rd entE w v2 ys) : Calls Tryz.prog 55 [v1, v2].toArray w (fun en w' => en = .returned (.bool (decide (xs = ys))) ∧ But w w' nowhere) := by
  obtain ⟨a1, c1, rfl, l1, m1, k1⟩ := h1
  obtain ⟨a2, c2, rfl, l2, m2, k2⟩ := h2
  unfold maxLen at m1 m2
  refine reads_of Tryz.func55 rfl rfl (Nat.le_of_ble_eq_true rfl) ?_
  (refine Zl rfl ?_; refine h_assign rfl rfl rfl rfl ?_; refine Zt ?_; refine hc_seq ?_; refine Zl rfl ?_; refine h_move rfl rfl rfl rfl ?_; refine hx_plain rfl ?_; refine h_len_slice rfl rfl rfl UC.out rfl rfl rfl ?_; refine Zm rfl rfl rfl rfl rfl ?_; refine hx_plain rfl ?_; refine h_len_slice rfl rfl rfl UC.out rfl rfl rfl ?_; refine Zc rfl rfl rfl rfl rfl rfl rfl ?_; refine Zt ?_; refine hc_condD rfl (fun hc => ?_) (fun hc => ?_); refine Zl rfl ?_; refine h_assign rfl rfl rfl rfl ?_; refine Zt ?_; refine hc_ret ?_; refine hq_ret_then ?_; rotate_left; refine hc_skip ?_; refine hq_then ?_; refine hc_seq ?_; refine Zl rfl ?_; refine h_assign rfl rfl rfl rfl ?_; refine Zt ?_; refine hc_block ?_; rotate_left)
  · refine hq_ret1 (.inr rfl) rfl rfl ⟨?_, rfl⟩ (fun _ h => h.emp)
    rw [decide_eq_false]
    intro e
    exact hc (by rw [e])
  have hlen : xs.length = ys.length := by have := Classical.not_not.1 hc; omega
  refine hc_cut (id := 0) (Y := Unit) (fun _ => []) (fun _ => []) (fun _ => xs = ys) ?_ ?_
  · refine hc_loop (X := Nat) (fun i => [(0, .slice a1 xs.length c1), (1, .slice a2 ys.length c2), (5, .int .i64 (i : Int))]) (fun _ => []) (fun i => i ≤ xs.length ∧ xs.take i = ys.take i) (fun i => xs.length - i) 0 (.cons rfl (.cons rfl (.cons rfl .nil))) ⟨Nat.zero_le _, rfl⟩ (fun _ h => h) ?_
    rintro i ⟨hi, hz⟩
    by_cases hlt : i < xs.length
    · have hlt2 : i < ys.length := by omega
      have hx : xs ≠ [] := by
        intro e
        rw [e] at hlt
        exact absurd hlt (Nat.not_lt_zero _)
      have hy : ys ≠ [] := by
        intro e
        rw [e] at hlt2
        exact absurd hlt2 (Nat.not_lt_zero _)
      obtain ⟨g1, o1, rfl, r1⟩ := k1.resolve_left hx
      obtain ⟨g2, o2, rfl, r2⟩ := k2.resolve_left hy
      obtain ⟨⟨pn, pi, pk⟩, hp⟩ : ∃ p, xs[i] = p := ⟨_, rfl⟩
      obtain ⟨⟨qn, qi, qk⟩, hq⟩ : ∃ q, ys[i] = q := ⟨_, rfl⟩
      have e1 : xs[((i : Nat) : Int).toNat]? = some ⟨pn, pi, pk⟩ := by rw [← hp]; exact List.getElem?_eq_getElem hlt
      have e2 : ys[((i : Nat) : Int).toNat]? = some ⟨qn, qi, qk⟩ := by rw [← hq]; exact List.getElem?_eq_getElem hlt2
      have hne : ∀ (_ : ¬ (pn = qn ∧ pi = qi ∧ pk = qk)), false = decide (xs = ys) := fun h => by
        rw [eq_comm, decide_eq_false_iff_not]
        rintro rfl
        rw [hp] at hq
        injection hq with q1 q2 q3
        exact h ⟨q1, q2, q3⟩
      (refine hc_seq ?_; refine Zl rfl ?_; refine h_move rfl rfl rfl rfl ?_; refine Zm rfl rfl rfl rfl rfl ?_; refine hx_plain rfl ?_; refine h_len_slice rfl rfl rfl UC.out rfl rfl rfl ?_; refine Zc rfl rfl rfl rfl rfl rfl rfl ?_; refine Zt ?_; refine hc_condDT rfl (by omega) ?_; refine hc_skip ?_; refine hq_then ?_; refine hc_seq ?_; refine hc_block ?_; refine hc_seq ?_; refine hc_draw0 (by kernel_rfl) (by kernel_rfl) ?_; (iterate 2 (refine Zm rfl rfl rfl rfl rfl ?_)); refine hx_plain rfl ?_; refine h_indexAddr rfl rfl rfl UC.out IC.size (by omega) (by omega) rfl rfl ?_; refine hx_plain rfl ?_; refine h_fieldAddr rfl rfl FC.out rfl rfl ?_; refine hx_plain rfl ?_; refine h_rdLoad rfl r1 rfl UC.out rfl (by with_reducible assumption) rfl rfl rfl ?_; (iterate 2 (refine Zm rfl rfl rfl rfl rfl ?_)); refine hx_plain rfl ?_; refine h_indexAddr rfl rfl rfl UC.out IC.size (by omega) (by omega) rfl rfl ?_; refine hx_plain rfl ?_; refine h_fieldAddr rfl rfl FC.out rfl rfl ?_; refine hx_plain rfl ?_; refine h_rdLoad rfl r2 rfl UC.out rfl (by with_reducible assumption) rfl rfl rfl ?_; refine hx_plain rfl ?_; refine h_cmpS rfl rfl rfl rfl rfl rfl ?_; refine Zm rfl rfl rfl rfl rfl ?_; refine hx_gcase rfl rfl rfl (fun hc => ?_) (fun hc => ?_); (iterate 11 (refine hx_skip rfl rfl rfl rfl rfl rfl ?_)); refine Zq rfl rfl rfl rfl rfl rfl ?_; refine Zm rfl rfl rfl rfl rfl ?_; (iterate 11 (refine hx_skip rfl rfl rfl rfl rfl rfl ?_)); refine Zq rfl rfl rfl rfl rfl rfl ?_; refine Zt ?_; refine hc_condT rfl ?_; refine Zl rfl ?_; refine h_assign rfl rfl rfl rfl ?_; refine Zt ?_; refine hc_ret ?_; refine hq_ret_block ?_; (iterate 2 (refine hq_ret_then ?_)); refine hq_cut_ret ?_; refine hq_ret_block ?_; refine hq_ret_then ?_; rotate_left; (iterate 2 (refine hx_yes rfl rfl rfl ?_; refine h_move rfl rfl rfl rfl ?_)); refine hx_yes rfl rfl rfl ?_; refine h_indexAddr rfl rfl rfl UC.out IC.size (by omega) (by omega) rfl rfl ?_; refine hx_yes rfl rfl rfl ?_; refine h_fieldAddr rfl rfl FC.out rfl rfl ?_; refine hx_yes rfl rfl rfl ?_; refine h_rdLoad rfl r1 rfl UC.out rfl (by with_reducible assumption) rfl rfl rfl ?_; (iterate 2 (refine hx_yes rfl rfl rfl ?_; refine h_move rfl rfl rfl rfl ?_)); refine hx_yes rfl rfl rfl ?_; refine h_indexAddr rfl rfl rfl UC.out IC.size (by omega) (by omega) rfl rfl ?_; refine hx_yes rfl rfl rfl ?_; refine h_fieldAddr rfl rfl FC.out rfl rfl ?_; refine hx_yes rfl rfl rfl ?_; refine h_rdLoad rfl r2 rfl UC.out rfl (by with_reducible assumption) rfl rfl rfl ?_; refine hx_yes rfl rfl rfl ?_; refine h_cmp rfl rfl rfl rfl rfl rfl ?_; refine Zp rfl rfl rfl rfl rfl rfl ?_; refine Zm rfl rfl rfl rfl rfl ?_; refine hx_gcaseD rfl rfl rfl (fun hc => ?_) (fun hc => ?_); (iterate 11 (refine hx_skip rfl rfl rfl rfl rfl rfl ?_)); refine Zq rfl rfl rfl rfl rfl rfl ?_; refine Zt ?_; refine hc_condT rfl ?_; refine Zl rfl ?_; refine h_assign rfl rfl rfl rfl ?_; refine Zt ?_; refine hc_ret ?_; refine hq_ret_block ?_; (iterate 2 (refine hq_ret_then ?_)); refine hq_cut_ret ?_; refine hq_ret_block ?_; refine hq_ret_then ?_; rotate_left; (iterate 2 (refine hx_yes rfl rfl rfl ?_; refine h_move rfl rfl rfl rfl ?_)); refine hx_yes rfl rfl rfl ?_; refine h_indexAddr rfl rfl rfl UC.out IC.size (by omega) (by omega) rfl rfl ?_; refine hx_yes rfl rfl rfl ?_; refine h_fieldAddr rfl rfl FC.out rfl rfl ?_; refine hx_yes rfl rfl rfl ?_; refine h_rdLoad rfl r1 rfl UC.out rfl (by with_reducible assumption) rfl rfl rfl ?_; (iterate 2 (refine hx_yes rfl rfl rfl ?_; refine h_move rfl rfl rfl rfl ?_)); refine hx_yes rfl rfl rfl ?_; refine h_indexAddr rfl rfl rfl UC.out IC.size (by omega) (by omega) rfl rfl ?_; refine hx_yes rfl rfl rfl ?_; refine h_fieldAddr rfl rfl FC.out rfl rfl ?_; refine hx_yes rfl rfl rfl ?_; refine h_rdLoad rfl r2 rfl UC.out rfl (by with_reducible assumption) rfl rfl rfl ?_; refine hx_yes rfl rfl rfl ?_; refine h_cmp rfl rfl rfl rfl rfl rfl ?_; refine Zp rfl rfl rfl rfl rfl rfl ?_; refine Zt ?_; refine hc_condD rfl (fun hc => ?_) (fun hc => ?_); refine Zl rfl ?_; refine h_assign rfl rfl rfl rfl ?_; refine Zt ?_; refine hc_ret ?_; refine hq_ret_block ?_; (iterate 2 (refine hq_ret_then ?_)); refine hq_cut_ret ?_; refine hq_ret_block ?_; refine hq_ret_then ?_; rotate_left; refine hc_skip ?_; refine hq_norm_block ?_; refine hq_then ?_; refine hc_lex ?_; refine Zm rfl rfl rfl rfl rfl ?_; refine hx_plain rfl ?_; refine h_arithI rfl rfl rfl rfl (by omega) rfl rfl ?_; refine Za rfl rfl rfl rfl rfl ?_; refine hx_nil ?_; rotate_left)
      · refine hq_ret1 (.inr rfl) rfl rfl ⟨congrArg Value.bool ?_, rfl⟩ (fun _ h => h.emp)
        refine hne ?_
        clear r1 r2 e1 e2 hne hp hq hz k1 k2
        simp_all [toList_beq]
      · refine hq_ret1 (.inr rfl) rfl rfl ⟨congrArg Value.bool ?_, rfl⟩ (fun _ h => h.emp)
        refine hne ?_
        clear r1 r2 e1 e2 hne hp hq hz k1 k2
        simp_all [toList_beq]
      · refine hq_ret1 (.inr rfl) rfl rfl ⟨congrArg Value.bool ?_, rfl⟩ (fun _ h => h.emp)
        refine hne ?_
        clear r1 r2 e1 e2 hne hp hq hz k1 k2
        simp_all [toList_beq]
      · refine hq_round (i + 1) (by omega) ⟨by omega, ?_⟩ (.cons rfl (.cons rfl (.cons rfl .nil))) (fun _ h => h.emp)
        have he : pn = qn ∧ pi = qi ∧ pk = qk := by
          clear r1 r2 e1 e2 hne hp hq hz k1 k2
          simp_all [toList_beq]
        rw [take_succ1 hlt, take_succ1 hlt2, hz, hp, hq, he.1, he.2.1, he.2.2]
    · (refine hc_seq ?_; refine Zl rfl ?_; refine h_move rfl rfl rfl rfl ?_; refine Zm rfl rfl rfl rfl rfl ?_; refine hx_plain rfl ?_; refine h_len_slice rfl rfl rfl UC.out rfl rfl rfl ?_; refine Zc rfl rfl rfl rfl rfl rfl rfl ?_; refine Zt ?_; refine hc_condDF rfl (by omega) ?_; refine hc_exit ?_; (iterate 2 (refine hq_exit_then ?_)))
      refine hq_cut () ?_ .nil (fun _ h => h)
      rwa [List.take_of_length_le (by omega), List.take_of_length_le (by omega)] at hz
  rintro ⟨⟩ he
  (refine hq_exit_block ?_; refine hq_then ?_; refine Zl rfl ?_; refine h_assign rfl rfl rfl rfl ?_; refine Zt ?_; refine hc_ret ?_)
  exact hq_ret1 (.inr rfl) rfl rfl ⟨by rw [decide_eq_true he], rfl⟩ (fun _ h => h.emp)
end Go.Proofs.YtfolhmlldoepfaaGreatDoor
namespace Go.Proofs.YtfolhmlldoepfaaGreatDoor
open Go Go.Proofs Go.RowKit
set_option maxRecDepth 4000
set_option maxHeartbeats 4000000 in
theorem sameReply {a b : RepV} {da db : List Int} {ea eb : List EntV} {w : World} (h1 : Rd byteE w a.dv.v da) (h2 : Rd byteE w b.dv.v db) (h3 : Rd entE w a.lv.v ea) (h4 : Rd entE w b.lv.v eb) : Calls Tryz.prog 33 [.agg a.cs, .agg b.cs].toArray w (fun en w' => en = .returned (.bool (sameP a b da db ea eb)) ∧ But w w' nowhere) := by
  obtain ⟨client, seq, epoch, op, status, aid, akind, asize, achange, ⟨ad, an, ac⟩, ⟨al, am, am2⟩, more⟩ := a
  obtain ⟨client', seq', epoch', op', status', aid', akind', asize', achange', ⟨bd, bn, bc⟩, ⟨bl, bm, bm2⟩, more'⟩ := b
  dsimp only [RepV.cs, SlV.v] at h1 h2 h3 h4 ⊢
  unfold sameP
  dsimp only
  refine reads_of Tryz.func33 rfl rfl (Nat.le_of_ble_eq_true rfl) ?_
  (refine Zl rfl ?_; (refine h_box rfl rfl rfl rfl rfl rfl (fun _ => ?_)); refine hx_plain rfl ?_; (refine h_box rfl rfl rfl rfl rfl rfl (fun _ => ?_)); refine Zn rfl rfl rfl rfl rfl ?_; refine Zl rfl ?_; refine h_fieldAddr0 rfl rfl FC.out rfl rfl ?_; refine hx_plain rfl ?_; refine h_load rfl rfl UC.out rfl (.tail .head) rfl rfl rfl ?_; refine Zf rfl rfl rfl rfl rfl ?_; refine hx_plain rfl ?_; refine h_load rfl rfl UC.out rfl .head rfl rfl rfl ?_; refine hx_plain rfl ?_)
  refine h_callRd rfl rfl rfl rfl rfl rfl EC.out (fun w' h => sameBytes (h.rd h1) (h.rd h2)) ?_
  (refine Zn rfl rfl rfl rfl rfl ?_; refine Zl rfl ?_; refine h_fieldAddr0 rfl rfl FC.out rfl rfl ?_; refine hx_plain rfl ?_; refine h_load rfl rfl UC.out rfl (.tail .head) rfl rfl rfl ?_; refine Zf rfl rfl rfl rfl rfl ?_; refine hx_plain rfl ?_; refine h_load rfl rfl UC.out rfl .head rfl rfl rfl ?_; refine hx_plain rfl ?_)
  refine h_callRd rfl rfl rfl rfl rfl rfl EC.out (fun w' h => sameEntries (h.rd h3) (h.rd h4)) ?_
  (refine Zn rfl rfl rfl rfl rfl ?_; refine Zl rfl ?_; refine h_fieldAddr0 rfl rfl FC.out rfl rfl ?_; refine hx_plain rfl ?_)
  refine h_loadP (cs' := #[.int .i64 aid, .int .i64 akind, .int .i64 asize, .int .i64 achange]) rfl rfl UC.out rfl IC.size (.tail .head) rfl (by kernel_rfl) rfl rfl ?_
  (refine Zf rfl rfl rfl rfl rfl ?_; refine hx_plain rfl ?_)
  refine h_loadP (cs' := #[.int .i64 aid', .int .i64 akind', .int .i64 asize', .int .i64 achange']) rfl rfl UC.out rfl IC.size .head rfl (by kernel_rfl) rfl rfl ?_
  (refine hx_plain rfl ?_)
  refine h_callR rfl rfl rfl rfl rfl rfl EC.out ((sameAttr _ _ _ _ _ _ _ _).reads _) ?_
  (refine Zn rfl rfl rfl rfl rfl ?_; refine hc_seq ?_)
  refine hc_drawN 52 (by kernel_rfl) (by kernel_rfl) ?_
  ((iterate 2 (refine Zm rfl rfl rfl rfl rfl ?_)); (iterate 2 (refine hx_gcaseD rfl rfl rfl (fun hc => ?_) (fun hc => ?_); refine hx_yes rfl rfl rfl ?_; refine h_move rfl rfl rfl rfl ?_; refine Zq rfl rfl rfl rfl rfl rfl ?_; refine Zm rfl rfl rfl rfl rfl ?_)); refine hx_gcaseD rfl rfl rfl (fun hc => ?_) (fun hc => ?_); refine hx_yes rfl rfl rfl ?_; refine h_fieldAddr0 rfl rfl FC.out rfl rfl ?_; refine hx_yes rfl rfl rfl ?_; refine h_load rfl rfl UC.out rfl (.tail .head) rfl rfl rfl ?_; refine hx_yes rfl rfl rfl ?_; refine h_fieldAddr0 rfl rfl FC.out rfl rfl ?_; refine hx_yes rfl rfl rfl ?_; refine h_load rfl rfl UC.out rfl .head rfl rfl rfl ?_; refine hx_yes rfl rfl rfl ?_; refine h_cmp rfl rfl rfl rfl rfl rfl ?_; refine Zq rfl rfl rfl rfl rfl rfl ?_; refine Zm rfl rfl rfl rfl rfl ?_; refine hx_gcaseD rfl rfl rfl (fun hc => ?_) (fun hc => ?_); refine hx_yes rfl rfl rfl ?_; refine h_fieldAddr0 rfl rfl FC.out rfl rfl ?_; refine hx_yes rfl rfl rfl ?_; refine h_load rfl rfl UC.out rfl (.tail .head) rfl rfl rfl ?_; refine hx_yes rfl rfl rfl ?_; refine h_fieldAddr0 rfl rfl FC.out rfl rfl ?_; refine hx_yes rfl rfl rfl ?_; refine h_load rfl rfl UC.out rfl .head rfl rfl rfl ?_; refine hx_yes rfl rfl rfl ?_; refine h_cmp rfl rfl rfl rfl rfl rfl ?_; refine Zq rfl rfl rfl rfl rfl rfl ?_; refine Zm rfl rfl rfl rfl rfl ?_; refine hx_gcaseD rfl rfl rfl (fun hc => ?_) (fun hc => ?_); refine hx_yes rfl rfl rfl ?_; refine h_fieldAddr0 rfl rfl FC.out rfl rfl ?_; refine hx_yes rfl rfl rfl ?_; refine h_load rfl rfl UC.out rfl (.tail .head) rfl rfl rfl ?_; refine hx_yes rfl rfl rfl ?_; refine h_fieldAddr0 rfl rfl FC.out rfl rfl ?_; refine hx_yes rfl rfl rfl ?_; refine h_load rfl rfl UC.out rfl .head rfl rfl rfl ?_; refine hx_yes rfl rfl rfl ?_; refine h_cmp rfl rfl rfl rfl rfl rfl ?_; refine Zq rfl rfl rfl rfl rfl rfl ?_; refine Zm rfl rfl rfl rfl rfl ?_; refine hx_gcaseD rfl rfl rfl (fun hc => ?_) (fun hc => ?_); refine hx_yes rfl rfl rfl ?_; refine h_fieldAddr0 rfl rfl FC.out rfl rfl ?_; refine hx_yes rfl rfl rfl ?_; refine h_load rfl rfl UC.out rfl (.tail .head) rfl rfl rfl ?_; refine hx_yes rfl rfl rfl ?_; refine h_fieldAddr0 rfl rfl FC.out rfl rfl ?_; refine hx_yes rfl rfl rfl ?_; refine h_load rfl rfl UC.out rfl .head rfl rfl rfl ?_; refine hx_yes rfl rfl rfl ?_; refine h_cmp rfl rfl rfl rfl rfl rfl ?_; refine Zq rfl rfl rfl rfl rfl rfl ?_; refine Zm rfl rfl rfl rfl rfl ?_; refine hx_gcaseD rfl rfl rfl (fun hc => ?_) (fun hc => ?_); refine hx_yes rfl rfl rfl ?_; refine h_fieldAddr0 rfl rfl FC.out rfl rfl ?_; refine hx_yes rfl rfl rfl ?_; refine h_load rfl rfl UC.out rfl (.tail .head) rfl rfl rfl ?_; refine hx_yes rfl rfl rfl ?_; rotate_left; (iterate 7 (refine hx_skip rfl rfl rfl rfl rfl rfl ?_)); refine Zp rfl rfl rfl rfl rfl rfl ?_; refine Zm rfl rfl rfl rfl rfl ?_; (iterate 5 (refine hx_skip rfl rfl rfl rfl rfl rfl ?_)); refine Zp rfl rfl rfl rfl rfl rfl ?_; refine Zn rfl rfl rfl rfl rfl ?_; refine hc_ret ?_; rotate_left; (iterate 2 ((iterate 5 (refine hx_skip rfl rfl rfl rfl rfl rfl ?_)); refine Zp rfl rfl rfl rfl rfl rfl ?_; refine Zm rfl rfl rfl rfl rfl ?_; (iterate 2 (refine hx_skip rfl rfl rfl rfl rfl rfl ?_)))); (iterate 3 (refine hx_skip rfl rfl rfl rfl rfl rfl ?_)); refine Zp rfl rfl rfl rfl rfl rfl ?_; refine Zn rfl rfl rfl rfl rfl ?_; refine hc_ret ?_; rotate_left; (iterate 2 ((iterate 5 (refine hx_skip rfl rfl rfl rfl rfl rfl ?_)); refine Zp rfl rfl rfl rfl rfl rfl ?_; refine Zm rfl rfl rfl rfl rfl ?_)); (iterate 7 (refine hx_skip rfl rfl rfl rfl rfl rfl ?_)); refine Zp rfl rfl rfl rfl rfl rfl ?_; refine Zm rfl rfl rfl rfl rfl ?_; (iterate 5 (refine hx_skip rfl rfl rfl rfl rfl rfl ?_)); refine Zp rfl rfl rfl rfl rfl rfl ?_; refine Zn rfl rfl rfl rfl rfl ?_; refine hc_ret ?_; rotate_left; (iterate 3 ((iterate 5 (refine hx_skip rfl rfl rfl rfl rfl rfl ?_)); refine Zp rfl rfl rfl rfl rfl rfl ?_; refine Zm rfl rfl rfl rfl rfl ?_)); (iterate 7 (refine hx_skip rfl rfl rfl rfl rfl rfl ?_)); refine Zp rfl rfl rfl rfl rfl rfl ?_; refine Zm rfl rfl rfl rfl rfl ?_; (iterate 5 (refine hx_skip rfl rfl rfl rfl rfl rfl ?_)); refine Zp rfl rfl rfl rfl rfl rfl ?_; refine Zn rfl rfl rfl rfl rfl ?_; refine hc_ret ?_; rotate_left; (iterate 4 ((iterate 5 (refine hx_skip rfl rfl rfl rfl rfl rfl ?_)); refine Zp rfl rfl rfl rfl rfl rfl ?_; refine Zm rfl rfl rfl rfl rfl ?_)); (iterate 7 (refine hx_skip rfl rfl rfl rfl rfl rfl ?_)); refine Zp rfl rfl rfl rfl rfl rfl ?_; refine Zm rfl rfl rfl rfl rfl ?_; (iterate 5 (refine hx_skip rfl rfl rfl rfl rfl rfl ?_)); refine Zp rfl rfl rfl rfl rfl rfl ?_; refine Zn rfl rfl rfl rfl rfl ?_; refine hc_ret ?_; rotate_left; (iterate 5 (refine hx_skip rfl rfl rfl rfl rfl rfl ?_; refine Zp rfl rfl rfl rfl rfl rfl ?_; refine Zm rfl rfl rfl rfl rfl ?_; (iterate 4 (refine hx_skip rfl rfl rfl rfl rfl rfl ?_)))); (iterate 3 (refine hx_skip rfl rfl rfl rfl rfl rfl ?_)); refine Zp rfl rfl rfl rfl rfl rfl ?_; refine Zm rfl rfl rfl rfl rfl ?_; (iterate 5 (refine hx_skip rfl rfl rfl rfl rfl rfl ?_)); refine Zp rfl rfl rfl rfl rfl rfl ?_; refine Zn rfl rfl rfl rfl rfl ?_; refine hc_ret ?_; rotate_left; (iterate 2 (refine hx_skip rfl rfl rfl rfl rfl rfl ?_; refine Zp rfl rfl rfl rfl rfl rfl ?_; refine Zm rfl rfl rfl rfl rfl ?_)); (iterate 4 ((iterate 5 (refine hx_skip rfl rfl rfl rfl rfl rfl ?_)); refine Zp rfl rfl rfl rfl rfl rfl ?_; refine Zm rfl rfl rfl rfl rfl ?_)); (iterate 7 (refine hx_skip rfl rfl rfl rfl rfl rfl ?_)); refine Zp rfl rfl rfl rfl rfl rfl ?_; refine Zm rfl rfl rfl rfl rfl ?_; (iterate 5 (refine hx_skip rfl rfl rfl rfl rfl rfl ?_)); refine Zp rfl rfl rfl rfl rfl rfl ?_; refine Zn rfl rfl rfl rfl rfl ?_; refine hc_ret ?_; rotate_left)
  focus
    refine h_callR rfl rfl rfl rfl rfl rfl EC.out ((num_spec _).reads _) ?_
    (refine hx_yes rfl rfl rfl ?_; refine h_fieldAddr0 rfl rfl FC.out rfl rfl ?_; refine hx_yes rfl rfl rfl ?_; refine h_load rfl rfl UC.out rfl .head rfl rfl rfl ?_; refine hx_yes rfl rfl rfl ?_)
    refine h_callR rfl rfl rfl rfl rfl rfl EC.out ((num_spec _).reads _) ?_
    (refine hx_yes rfl rfl rfl ?_; refine h_cmp rfl rfl rfl rfl rfl rfl ?_; refine Zq rfl rfl rfl rfl rfl rfl ?_; refine Zm rfl rfl rfl rfl rfl ?_; refine hx_gcaseD rfl rfl rfl (fun hc => ?_) (fun hc => ?_); refine hx_yes rfl rfl rfl ?_; refine h_fieldAddr0 rfl rfl FC.out rfl rfl ?_; refine hx_yes rfl rfl rfl ?_; refine h_load rfl rfl UC.out rfl (.tail .head) rfl rfl rfl ?_; refine hx_yes rfl rfl rfl ?_; refine h_fieldAddr0 rfl rfl FC.out rfl rfl ?_; refine hx_yes rfl rfl rfl ?_; refine h_load rfl rfl UC.out rfl .head rfl rfl rfl ?_; refine hx_yes rfl rfl rfl ?_; refine h_cmpB rfl rfl rfl UC.out rfl rfl rfl ?_; refine Zq rfl rfl rfl rfl rfl rfl ?_; refine Zn rfl rfl rfl rfl rfl ?_; refine hc_ret ?_; rotate_left; (iterate 5 (refine hx_skip rfl rfl rfl rfl rfl rfl ?_)); refine Zp rfl rfl rfl rfl rfl rfl ?_; refine Zn rfl rfl rfl rfl rfl ?_; refine hc_ret ?_; rotate_left)
  all_goals first | (refine hq_ret1 (.inr rfl) rfl rfl ⟨congrArg Value.bool ?_, rfl⟩ (fun _ h => h.emp); clear h1 h2 h3 h4; simp_all; done) | (refine hq_ret1 (.inr rfl) rfl rfl ⟨congrArg Value.bool ?_, rfl⟩ (fun _ h => h.emp); clear h1 h2 h3 h4; simp_all; cases more <;> cases more' <;> rfl)
end Go.Proofs.YtfolhmlldoepfaaGreatDoor
namespace Go.Proofs.YtfolhmlldoepfaaGreatDoor
open Go Go.Proofs Go.RowKit
set_option maxRecDepth 4000
theorem numP_add : ∀ (l : List Int) (y : Int), numP y l = y * 256 ^ l.length + numP 0 l
  | [], y => by simp [numP]
  | c :: l, y => by
    show numP (y * 256 + c) l = _ + numP (0 * 256 + c) l
    rw [numP_add l (y * 256 + c), numP_add l (0 * 256 + c), List.length_cons, Int.pow_succ, Int.zero_mul, Int.zero_add, Int.add_mul, Int.mul_assoc, Int.mul_comm 256 (256 ^ l.length), Int.add_assoc]
theorem dg_num : ∀ (l : List Int) (y : Int), Byts l → l.length ≤ 8 → dg (numP y l) l.length = l
  | [], y, _, _ => rfl
  | c :: l, y, hb, hl => by
    have hbl : Byts l := fun x hx => hb x (List.mem_cons_of_mem _ hx)
    have hc := hb c (List.mem_cons_self ..)
    rw [List.length_cons] at hl ⊢
    show IntKind.u8.wrap (numP (y * 256 + c) l / 2 ^ (8 * l.length)) :: dg (numP (y * 256 + c) l) l.length = c :: l
    rw [dg_num l (y * 256 + c) hbl (by omega)]
    congr 1
    obtain ⟨_, h2, h3⟩ := numR_eq hbl (by omega)
    have e1 : (2 : Int) ^ (8 * l.length) = 256 ^ l.length := by
      rw [Int.pow_mul]
      rfl
    have hp : (0 : Int) < 256 ^ l.length := Int.pow_pos (by decide)
    rw [numP_add, e1, Int.add_comm, Int.add_mul_ediv_right _ _ (by omega), Int.ediv_eq_zero_of_lt h2 h3, Int.zero_add, wrap8_eq]
    omega
theorem take_len {bs : List Int} {at_ n : Nat} (h : at_ + n ≤ bs.length) : ((bs.drop at_).take n).length = n := by rw [List.length_take, List.length_drop]; omega
theorem again4 {bs : List Int} {at_ : Nat} (hb : Byts bs) (h : at_ + 4 ≤ bs.length) : dg (IntKind.u64.wrap (N4 bs at_)) 4 = (bs.drop at_).take 4 := by
  obtain ⟨e1, e2, e3⟩ := N4_eq hb at_
  rw [u64_in (by omega), e1, (numR_eq (byts_sub hb at_ 4) (by rw [take_len h]; decide)).1]
  have := dg_num ((bs.drop at_).take 4) 0 (byts_sub hb at_ 4) (by rw [take_len h]; decide)
  rwa [take_len h] at this
theorem N8_in {bs : List Int} {at_ : Nat} (hb : Byts bs) : N8 bs at_ = numP 0 ((bs.drop at_).take 8) ∧ 0 ≤ N8 bs at_ ∧ N8 bs at_ ≤ 18446744073709551615 := by
  obtain ⟨h1, h2, h3⟩ := numR_eq (byts_sub hb at_ 8) (by rw [List.length_take]; omega)
  have h4 : (256 : Int) ^ ((bs.drop at_).take 8).length ≤ 256 ^ 8 := pow256_le (by rw [List.length_take]; omega)
  have h5 : (256 : Int) ^ 8 = 18446744073709551616 := by decide
  refine ⟨h1, ?_, ?_⟩
  · show 0 ≤ numR _; omega
  · show numR _ ≤ _; omega
theorem again8 {bs : List Int} {at_ : Nat} (hb : Byts bs) (h : at_ + 8 ≤ bs.length) : dg (N8 bs at_) 8 = (bs.drop at_).take 8 := by
  rw [(N8_in hb).1]
  have := dg_num ((bs.drop at_).take 8) 0 (byts_sub hb at_ 8) (by rw [take_len h]; decide)
  rwa [take_len h] at this
theorem againB {bs : List Int} {at_ : Nat} {most : Int} (hb : Byts bs) (h : bodyE bs at_ most = 0) : fieldB ((bs.drop (at_ + 4)).take (NB bs at_)) = (bs.drop at_).take (4 + NB bs at_ + padN (NB bs at_)) := by
  obtain ⟨h1, h2, h3, h4, h5⟩ := bodyE_ok h
  have hl : ((bs.drop (at_ + 4)).take (NB bs at_)).length = NB bs at_ := take_len (by omega)
  have e1 := N4_nat hb at_
  have e2 : N4 bs at_ = ((NB bs at_ : Nat) : Int) := e1
  unfold fieldB
  rw [hl, ← e2, again4 hb h1]
  have hp : List.replicate (padN (NB bs at_)) (0 : Int) = padsOf bs at_ := by
    have hlen : (padsOf bs at_).length = padN (NB bs at_) := take_len h4
    rw [List.eq_replicate_of_mem (fun x hx => h5 x hx), hlen]
  rw [hp]
  unfold padsOf
  rw [Nat.add_assoc 4, List.take_add, List.append_assoc, List.append_cancel_left_eq, List.drop_drop, List.take_add, List.drop_drop]
theorem N4_of {bs : List Int} {at_ : Nat} {x : Int} (h : (bs.drop at_).take 4 = dg (IntKind.u64.wrap x) 4) (hx : 0 ≤ x ∧ x < 4294967296) : N4 bs at_ = x := by
  have h5 : (256 : Int) ^ 4 = 4294967296 := by decide
  unfold N4
  rw [h, numR_dg _ (by decide), u64_in (by omega), h5, Int.emod_eq_of_lt (by omega) (by omega), wrapI_in (by omega)]
theorem N8_of {bs : List Int} {at_ : Nat} {x : Int} (h : (bs.drop at_).take 8 = dg x 8) (hx : 0 ≤ x ∧ x ≤ 18446744073709551615) : N8 bs at_ = x := by
  have h5 : (256 : Int) ^ 8 = 18446744073709551616 := by decide
  unfold N8
  rw [h, numR_dg _ (by decide), h5, Int.emod_eq_of_lt (by omega) (by omega)]
theorem drop_len {α : Type} {l a b : List α} {n : Nat} (h : l.drop n = a ++ b) (ha : a ≠ []) : n + a.length + b.length = l.length := by
  have := congrArg List.length h
  rw [List.length_drop, List.length_append] at this
  have : 0 < a.length := List.length_pos_iff.2 ha
  omega
/-- What stands at the place of a field. -/
structure BodyAt (bs : List Int) (at_ : Nat) (ds : List Int) : Prop where
  n4 : N4 bs at_ = (ds.length : Int)
  nb : NB bs at_ = ds.length
  ds : (bs.drop (at_ + 4)).take ds.length = ds
  pads : ∀ x ∈ padsOf bs at_, x = 0
theorem body_at {bs ds rest : List Int} {at_ : Nat} (h : bs.drop at_ = fieldB ds ++ rest) (hd : ds.length ≤ 1048576) : BodyAt bs at_ ds := by
  unfold fieldB at h
  rw [List.append_assoc, List.append_assoc] at h
  have hl4 : (dg (IntKind.u64.wrap (ds.length : Int)) 4).length = 4 := dg_len _ _
  have n4 : N4 bs at_ = (ds.length : Int) := N4_of (by rw [h, List.take_append_of_le_length (by omega), List.take_of_length_le (by omega)]) (by omega)
  have nb : NB bs at_ = ds.length := by unfold NB; omega
  have d4 : bs.drop (at_ + 4) = ds ++ (List.replicate (padN ds.length) 0 ++ rest) := by
    rw [← List.drop_drop, h, List.drop_append_of_le_length (by omega), List.drop_of_length_le (by omega), List.nil_append]
  refine ⟨n4, nb, by rw [d4, List.take_append_of_le_length (Nat.le_refl _), List.take_length], fun x hx => ?_⟩
  unfold padsOf at hx
  rw [nb, ← List.drop_drop, d4, List.drop_append_of_le_length (Nat.le_refl _), List.drop_length, List.nil_append, List.take_append_of_le_length (by rw [List.length_replicate]; exact Nat.le_refl _)] at hx
  exact (List.mem_replicate.1 (List.mem_of_mem_take hx)).2
theorem strBytes_byts (s : ByteArray) : Byts (strBytes s) := fun x hx => by
  unfold strBytes at hx
  obtain ⟨b, _, rfl⟩ := List.mem_map.1 hx
  have := b.toNat_lt
  omega
theorem strBytes_inj {a b : ByteArray} (h : strBytes a = strBytes b) : a = b := by
  unfold strBytes at h
  have h2 : a.data.toList = b.data.toList := List.map_inj_right (fun x y e => UInt8.toNat_inj.1 (by omega)) |>.1 h
  cases a; cases b
  congr 1
  exact Array.toList_inj.1 h2
theorem strOf_bytes (s : ByteArray) : strOf (strBytes s) = s := strBytes_inj (strBytes_of (strBytes_byts s))
theorem drop_more {m rest enc : List Int} {at_ : Nat} (h : m.drop at_ = enc ++ rest) : rest = m.drop (at_ + enc.length) := by
  rw [← List.drop_drop, h, List.drop_left]
theorem drop_fits {m rest enc : List Int} {at_ : Nat} (h : m.drop at_ = enc ++ rest) (h0 : enc ≠ []) : at_ + enc.length ≤ m.length := by
  have := drop_len h h0
  omega
theorem drop_take {m : List Int} (at_ n : Nat) : m.drop at_ = (m.drop at_).take n ++ m.drop (at_ + n) := by rw [← List.drop_drop, List.take_append_drop]
theorem ne_len {l : List Int} {n : Nat} (h : l.length = n + 1) : l ≠ [] := by
  rintro rfl
  cases h
section
variable {m rest : List Int} {at_ : Nat}
theorem u32_fwd {x most : Int} (h : m.drop at_ = p32 x ++ rest) (hx : 0 ≤ x ∧ x ≤ most) (hm : most ≤ 4294967295) : U32R m at_ 0 most = (x, at_ + 4, 0) := by
  have hf := drop_fits h (ne_len (p32_len x))
  rw [p32_len] at hf
  have hn : N4 m at_ = x := N4_of (by rw [h, List.take_append_of_le_length (by rw [p32_len]; exact Nat.le_refl _), List.take_of_length_le (by rw [p32_len]; exact Nat.le_refl _)]; rfl) (by omega)
  unfold U32R
  rw [if_neg (by simp), if_neg (by omega), hn, if_pos hx.2]
theorem u64_fwd {x : Int} (h : m.drop at_ = p64 x ++ rest) (hx : 0 ≤ x ∧ x ≤ 9223372036854775807) : U64R m at_ 0 mst64 = (x, at_ + 8, 0) := by
  have hf := drop_fits h (ne_len (p64_len x))
  rw [p64_len] at hf
  have hw : IntKind.u64.wrap x = x := u64_in (by omega)
  have hn : N8 m at_ = x := N8_of (by rw [h, List.take_append_of_le_length (by rw [p64_len]; exact Nat.le_refl _), List.take_of_length_le (by rw [p64_len]; exact Nat.le_refl _)]; unfold p64; rw [hw]) (by omega)
  unfold U64R
  rw [if_neg (by simp), if_neg (by omega), hn, if_pos ⟨by decide, by rw [u64_in (by decide)]; exact hx.2⟩, wrapI_in (by omega)]
theorem sum_fwd {x : Int} (h : m.drop at_ = dg x 8 ++ rest) (hx : 0 ≤ x ∧ x ≤ 18446744073709551615) : N8 m at_ = x := by
  exact N8_of (by rw [h, List.take_append_of_le_length (by rw [dg_len]; exact Nat.le_refl _), List.take_of_length_le (by rw [dg_len]; exact Nat.le_refl _)]) hx
theorem flag_fwd (b : Bool) (h : m.drop at_ = p32 (if b then 1 else 0) ++ rest) : FlagR m at_ 0 = (b, at_ + 4, 0) := by
  have hf := drop_fits h (ne_len (p32_len _))
  rw [p32_len] at hf
  have hn : numR ((m.drop at_).take 4) = if b then 1 else 0 := by
    rw [h, List.take_append_of_le_length (by rw [p32_len]; exact Nat.le_refl _), List.take_of_length_le (by rw [p32_len]; exact Nat.le_refl _)]
    unfold p32
    rw [numR_dg _ (by decide), u64_in (by cases b <;> decide)]
    cases b <;> decide
  unfold FlagR
  rw [if_neg (by simp), if_neg (by omega), hn]
  cases b <;> rfl
theorem body_fwd {ds : List Int} {most : Int} (h : m.drop at_ = fieldB ds ++ rest) (hd : (ds.length : Int) ≤ most) (hm : most ≤ 1048576) : BodyR m at_ 0 most = (ds, at_ + (fieldB ds).length, 0) := by
  have hB := body_at h (by omega)
  have hfl : (fieldB ds).length = 4 + ds.length + padN ds.length := by
    unfold fieldB
    rw [List.length_append, List.length_append, dg_len, List.length_replicate]
  have hf := drop_fits h (by intro e; rw [e] at hfl; simp at hfl; omega)
  have he : bodyE m at_ most = 0 := by
    unfold bodyE
    rw [hB.n4, hB.nb, if_neg (by omega), if_neg (by omega), if_neg (by omega), if_neg (by omega), if_pos hB.pads]
  unfold BodyR
  rw [if_neg (by simp), if_pos he, hB.nb, hB.ds, hfl]
  congr 2
  omega
theorem u32_bwd (hb : Byts m) {er : Int} (h : (U32R m at_ er mst32).2.2 = 0) : er = 0 ∧ m.drop at_ = p32 (U32R m at_ er mst32).1 ++ m.drop (U32R m at_ er mst32).2.1 ∧ 0 ≤ (U32R m at_ er mst32).1 := by
  unfold U32R at h ⊢
  split at h
  · rename_i h1; exact absurd h h1
  · rename_i h1
    rw [if_neg h1]
    split at h
    · cases h
    · rename_i h2
      rw [if_neg h2]
      have h3 := N4_eq hb at_
      rw [if_pos (by show N4 m at_ ≤ 4294967295; omega)]
      refine ⟨by simpa using h1, ?_, h3.2.1⟩
      dsimp only
      unfold p32
      rw [again4 hb (by omega)]
      exact drop_take _ _
theorem u64_bwd (hb : Byts m) {er : Int} (h : (U64R m at_ er mst64).2.2 = 0) : er = 0 ∧ m.drop at_ = p64 (U64R m at_ er mst64).1 ++ m.drop (U64R m at_ er mst64).2.1 := by
  unfold U64R at h ⊢
  split at h
  · rename_i h1; exact absurd h h1
  · rename_i h1
    rw [if_neg h1]
    split at h
    · cases h
    · rename_i h2
      rw [if_neg h2]
      split at h
      · rename_i h3
        rw [if_pos h3]
        refine ⟨by simpa using h1, ?_⟩
        dsimp only
        have h4 := h3.2
        have h5 := (N8_in hb (at_ := at_)).2
        have h6 : mst64 = 9223372036854775807 := rfl
        rw [u64_in (by decide), h6] at h4
        unfold p64
        rw [wrapI_in (by omega), u64_in (by omega), again8 hb (by omega)]
        exact drop_take _ _
      · cases h
theorem flag_bwd (hb : Byts m) {er : Int} (h : (FlagR m at_ er).2.2 = 0) : er = 0 ∧ m.drop at_ = p32 (if (FlagR m at_ er).1 then 1 else 0) ++ m.drop (FlagR m at_ er).2.1 := by
  unfold FlagR at h ⊢
  split at h
  · rename_i h1; exact absurd h h1
  · rename_i h1
    rw [if_neg h1]
    split at h
    · cases h
    · rename_i h2
      rw [if_neg h2]
      split at h
      · rename_i h3
        rw [if_pos h3]
        refine ⟨by simpa using h1, ?_⟩
        dsimp only
        have h4 := N4_eq hb at_
        have h5 : (if decide (numR ((m.drop at_).take 4) = 1) = true then (1 : Int) else 0) = N4 m at_ := by
          by_cases h6 : numR ((m.drop at_).take 4) = 1
          · rw [decide_eq_true h6, if_pos rfl]; omega
          · rw [decide_eq_false h6, if_neg Bool.false_ne_true]; omega
        rw [h5]
        unfold p32
        rw [again4 hb (by omega)]
        exact drop_take _ _
      · cases h
theorem body_bwd (hb : Byts m) {er most : Int} (h : (BodyR m at_ er most).2.2 = 0) : er = 0 ∧ m.drop at_ = fieldB (BodyR m at_ er most).1 ++ m.drop (BodyR m at_ er most).2.1 ∧ Byts (BodyR m at_ er most).1 := by
  unfold BodyR at h ⊢
  split at h
  · rename_i h1; exact absurd h h1
  · rename_i h1
    rw [if_neg h1]
    split at h
    · rename_i h2
      rw [if_pos h2]
      refine ⟨by simpa using h1, ?_, byts_sub hb _ _⟩
      dsimp only
      rw [againB hb h2, Nat.add_assoc at_ 4, Nat.add_assoc at_]
      exact drop_take _ _
    · rename_i h2
      exact absurd h h2
end
end Go.Proofs.YtfolhmlldoepfaaGreatDoor
namespace Go.Proofs.YtfolhmlldoepfaaGreatDoor
open Go Go.Proofs Go.RowKit
set_option maxRecDepth 4000
def RqF.set (q r : ReqV) : RqF → ReqV
  | .id => { q with id := r.id }
  | .off => { q with off := r.off }
  | .len _ => { q with len := r.len }
  | .path => { q with path := r.path }
  | .name _ => { q with name := r.name }
  | .id2 => { q with id2 := r.id2 }
  | .name2 => { q with name2 := r.name2 }
  | .data => q
def RqF.setD (d ds : List Int) : RqF → List Int
  | .data => ds
  | _ => d
theorem pth_size2 {s : ByteArray} (h : isPth s = true) : s.size ≤ 384 := by
  unfold isPth at h
  have h := of_decide_eq_true h
  unfold spl at h
  split at h
  · cases h
  · split at h
    · rename_i h2
      rw [ba_size, h2]
      decide
    · unfold Nm.splitV at h
      split at h
      · cases h
      · rename_i h3
        split at h
        · rename_i h4
          have hall : ∀ x ∈ Nm.partsL s.data.toList, x.length + 1 ≤ 24 := fun x hx => by
            unfold Nm.faultOf at h4
            split at h4
            · rename_i h5
              have := List.all_eq_true.1 h5 ⟨x.toArray⟩ (List.mem_map_of_mem (f := fun l : List UInt8 => (⟨l.toArray⟩ : ByteArray)) hx)
              have h6 := nm_size (by simpa using this)
              rw [ba_size] at h6
              have h7 : x.length ≤ 23 := by simpa using h6
              omega
            · cases h4
          have h8 := parts_len _ s.data.toList (Nat.le_refl _)
          have h9 := sum_le (fun x : List UInt8 => x.length + 1) 24 (Nm.partsL s.data.toList) hall
          have h10 : (Nm.partsB s).length = (Nm.partsL s.data.toList).length := by unfold Nm.partsB; rw [List.length_map]
          rw [ba_size, h8]
          omega
        · cases h
theorem text_fwd {m rest : List Int} {at_ : Nat} {s : ByteArray} {most : Int} (h : m.drop at_ = fieldB (strBytes s) ++ rest) (hs : (s.size : Int) ≤ most) (hm : most ≤ 1048576) : BodyR m at_ 0 most = (strBytes s, at_ + (fieldB (strBytes s)).length, 0) :=
  body_fwd h (by rw [strBytes_len]; exact hs) hm
/-- The lengths that may be. -/
def lenOk : RqF → Prop
  | .len l => l ≤ 4294967295
  | _ => True
theorem takeQ_fwd {m rest ds : List Int} {r : ReqV} {x : TkQ} (f : RqF) (hlk : lenOk f) (hx : x.er = 0) (h : m.drop x.at_ = f.enc r ds ++ rest) (hok : f.ok r = true) (hd : ds.length = r.dv.len) :
    f.take m x = ⟨f.set x.r r, f.setD x.ds ds, x.at_ + (f.enc r ds).length, 0⟩ := by
  obtain ⟨q, d, at_, er⟩ := x
  dsimp only at hx h ⊢
  subst hx
  cases f with
  | id =>
    have ho := of_decide_eq_true (show decide (1 ≤ r.id ∧ r.id ≤ 562949953421311) = true from hok)
    simp only [RqF.take, RqF.enc, RqF.set, RqF.setD] at h ⊢
    rw [u64_fwd h (by omega), p64_len]
  | off =>
    have ho : (decide (0 ≤ r.off) && decide (r.off ≤ 69632)) = true := hok
    rw [Bool.and_eq_true, decide_eq_true_iff, decide_eq_true_iff] at ho
    simp only [RqF.take, RqF.enc, RqF.set, RqF.setD] at h ⊢
    rw [u32_fwd h (most := mst32) ⟨ho.1, by show r.off ≤ 4294967295; omega⟩ (Int.le_refl _), p32_len]
  | len l =>
    have ho : (decide (1 ≤ r.len) && decide (r.len ≤ l)) = true := hok
    rw [Bool.and_eq_true, decide_eq_true_iff, decide_eq_true_iff] at ho
    simp only [RqF.take, RqF.enc, RqF.set, RqF.setD] at h ⊢
    have hl : l ≤ 4294967295 := hlk
    rw [u32_fwd h (most := mst32) ⟨by omega, by show r.len ≤ 4294967295; omega⟩ (Int.le_refl _), p32_len]
  | path =>
    have ho := pth_size2 (show isPth r.path = true from hok)
    simp only [RqF.take, RqF.enc, RqF.set, RqF.setD] at h ⊢
    rw [text_fwd h (by omega) (by decide), strOf_bytes]
  | name b =>
    have ho : r.name.size ≤ 23 := by
      cases b with
      | false => exact nm_size2 hok
      | true => exact nmN_size hok
    simp only [RqF.take, RqF.enc, RqF.set, RqF.setD] at h ⊢
    rw [text_fwd h (by omega) (by decide), strOf_bytes]
  | id2 =>
    have ho := of_decide_eq_true (show decide (1 ≤ r.id2 ∧ r.id2 ≤ 562949953421311) = true from hok)
    simp only [RqF.take, RqF.enc, RqF.set, RqF.setD] at h ⊢
    rw [u64_fwd h (by omega), p64_len]
  | name2 =>
    have ho := nm_size2 (show isNm r.name2 = true from hok)
    simp only [RqF.take, RqF.enc, RqF.set, RqF.setD] at h ⊢
    rw [text_fwd h (by omega) (by decide), strOf_bytes]
  | data =>
    have ho : (decide (1 ≤ r.dv.len) && decide (r.dv.len ≤ 1024)) = true := hok
    rw [Bool.and_eq_true, decide_eq_true_iff, decide_eq_true_iff] at ho
    simp only [RqF.take, RqF.enc, RqF.set, RqF.setD] at h ⊢
    rw [body_fwd h (by omega) (by decide)]
theorem takeQs_fwd {m ds : List Int} {r : ReqV} (hd : ds.length = r.dv.len) : ∀ (fs : List RqF) {rest : List Int} {x : TkQ}, x.er = 0 → m.drop x.at_ = encQ r ds fs ++ rest → (∀ f ∈ fs, f.ok r = true) → (∀ f ∈ fs, lenOk f) →
    takeQs m x fs = ⟨fs.foldl (fun q f => f.set q r) x.r, fs.foldl (fun d f => f.setD d ds) x.ds, x.at_ + (encQ r ds fs).length, 0⟩
  | [], _, ⟨q, d, at_, er⟩, hx, _, _, _ => by
    obtain rfl : er = 0 := hx
    rfl
  | f :: fs, rest, x, hx, h, hok, hlk => by
    have he : encQ r ds (f :: fs) = f.enc r ds ++ encQ r ds fs := rfl
    rw [he, List.append_assoc] at h
    have h1 := takeQ_fwd f (hlk f (.head _)) hx h (hok f (.head _)) hd
    have h2 := takeQs_fwd hd fs (rest := rest) (x := f.take m x) (by rw [h1]) (by rw [h1]; exact (drop_more h).symm) (fun g hg => hok g (.tail _ hg)) (fun g hg => hlk g (.tail _ hg))
    show takeQs m (f.take m x) fs = _
    rw [h2, h1, he, List.length_append, Nat.add_assoc]
    rfl
theorem nilS_eq {s : ByteArray} (h : nilS s = true) : s = ⟨#[]⟩ := toList_inj (by simpa [nilS] using h)
/-- What is read of a request's bytes. -/
def ReqV.bare (r : ReqV) (n : Nat) : ReqV := { r with dv := ⟨none, n, 0⟩ }
theorem set_all {r : ReqV} {ds : List Int} (hd : ds.length = r.dv.len) (ho : 1 ≤ r.op ∧ r.op ≤ 10) (hz : (clrAll r (rqFs r.op)).zeroB = true) :
    (rqFs r.op).foldl (fun q f => f.set q r) ⟨r.client, r.seq, r.ack, r.epoch, r.op, 0, 0, 0, 0, ⟨#[]⟩, ⟨#[]⟩, ⟨#[]⟩, ⟨none, 0, 0⟩⟩ = { r with dv := ⟨none, 0, 0⟩ } ∧ (rqFs r.op).foldl (fun d f => f.setD d ds) [] = ds := by
  obtain ⟨client, seq, ack, epoch, op, id, id2, off, len, path, name, name2, ⟨da, dn, dc⟩⟩ := r
  dsimp only at hd ho hz ⊢
  have hc : op = 1 ∨ op = 2 ∨ op = 3 ∨ op = 4 ∨ op = 5 ∨ op = 6 ∨ op = 7 ∨ op = 8 ∨ op = 9 ∨ op = 10 := by omega
  rcases hc with rfl | rfl | rfl | rfl | rfl | rfl | rfl | rfl | rfl | rfl <;>
  · simp only [rqFs, askQ, Int.reduceToNat, List.getElem?_cons_succ, List.getElem?_cons_zero, Option.getD_some, List.map_cons, List.map_nil, fldAt, clrAll, List.foldl_cons, List.foldl_nil, RqF.clr, RqF.set, RqF.setD, ReqV.zeroB, Bool.and_eq_true, decide_eq_true_eq] at hz ⊢
    obtain ⟨⟨⟨⟨⟨⟨⟨h1, h2⟩, h3⟩, h4⟩, h5⟩, h6⟩, h7⟩, h8⟩ := hz
    have h5 := nilS_eq h5
    have h6 := nilS_eq h6
    have h7 := nilS_eq h7
    first
      | (have e := List.eq_nil_of_length_eq_zero (hd.trans h8); subst_vars; exact ⟨rfl, rfl⟩)
      | (clear hd; subst_vars; exact ⟨rfl, rfl⟩)
      | (clear hd; subst_vars; exact ⟨rfl, trivial⟩)
theorem rqFs_lenOk (op : Int) : ∀ f ∈ rqFs op, lenOk f := by
  intro f hf
  unfold rqFs at hf
  obtain ⟨k, _, rfl⟩ := List.mem_map.1 hf
  unfold fldAt
  split <;> first | trivial | (show (if _ then (16 : Int) else 1024) ≤ 4294967295; split <;> decide)
def RqF.cap : RqF → Nat
  | .id => 8
  | .off => 4
  | .len _ => 4
  | .path => 391
  | .name _ => 30
  | .id2 => 8
  | .name2 => 30
  | .data => 1031
theorem enc_cap {r : ReqV} {ds : List Int} (hd : ds.length = r.dv.len) (f : RqF) (hok : f.ok r = true) : (f.enc r ds).length ≤ f.cap := by
  have text : ∀ (s : ByteArray) (n : Nat), s.size ≤ n → (fieldB (strBytes s)).length ≤ n + 7 := fun s n h => by
    have h1 := fieldB_lens (strBytes s)
    have h2 := strBytes_len s
    omega
  cases f with
  | id => exact Nat.le_of_eq (p64_len _)
  | off => exact Nat.le_of_eq (p32_len _)
  | len l => exact Nat.le_of_eq (p32_len _)
  | path => exact text _ 384 (pth_size2 hok)
  | name b => cases b with
    | false => exact text _ 23 (nm_size2 hok)
    | true => exact text _ 23 (nmN_size hok)
  | id2 => exact Nat.le_of_eq (p64_len _)
  | name2 => exact text _ 23 (nm_size2 hok)
  | data =>
    have ho : (decide (1 ≤ r.dv.len) && decide (r.dv.len ≤ 1024)) = true := hok
    rw [Bool.and_eq_true, decide_eq_true_iff, decide_eq_true_iff] at ho
    have h1 := fieldB_lens ds
    show (fieldB ds).length ≤ 1031
    omega
theorem encQ_cap {r : ReqV} {ds : List Int} (hd : ds.length = r.dv.len) : ∀ fs : List RqF, (∀ f ∈ fs, f.ok r = true) → (encQ r ds fs).length ≤ (fs.map RqF.cap).sum
  | [], _ => Nat.le_refl _
  | f :: fs, h => by
    have h1 := enc_cap hd f (h f (.head _))
    have h2 := encQ_cap hd fs fun g hg => h g (.tail _ hg)
    show (f.enc r ds ++ encQ r ds fs).length ≤ _
    rw [List.length_append, List.map_cons, List.sum_cons]
    omega
theorem rqFs_cap {op : Int} (ho : 1 ≤ op ∧ op ≤ 10) : ((rqFs op).map RqF.cap).sum ≤ 1100 := by
  have hc : op = 1 ∨ op = 2 ∨ op = 3 ∨ op = 4 ∨ op = 5 ∨ op = 6 ∨ op = 7 ∨ op = 8 ∨ op = 9 ∨ op = 10 := by omega
  rcases hc with rfl | rfl | rfl | rfl | rfl | rfl | rfl | rfl | rfl | rfl <;> decide
theorem sumR_in : ∀ (bs : List Int) (h : Int), 0 ≤ h ∧ h ≤ 18446744073709551615 → 0 ≤ sumR h bs ∧ sumR h bs ≤ 18446744073709551615
  | [], _, hh => hh
  | x :: bs, h, _ => by
    refine sumR_in bs (stepS h x) ?_
    unfold stepS
    rw [wrapU_eq]
    omega
theorem sum0_in (bs : List Int) : 0 ≤ sumR off0 bs ∧ sumR off0 bs ≤ 18446744073709551615 := sumR_in bs off0 (by decide)
/-- What is sealed is opened. -/
theorem open_sealed {B : List Int} {mg : ByteArray} (hm : strOf (B.take 4) = mg) (h4 : 4 ≤ B.length) (hl : B.length ≤ 1392) : openE (sealed B) mg = 0 ∧ midB (sealed B) = B.drop 4 := by
  have hsl : (sealed B).length = B.length + 8 := by unfold sealed; rw [List.length_append, dg_len]
  have ht4 : (sealed B).take 4 = B.take 4 := by unfold sealed; rw [List.take_append_of_le_length h4]
  have e8 : (sealed B).length - 8 = B.length := by omega
  have htB : (sealed B).take B.length = B := by unfold sealed; rw [List.take_left]
  have hdB : (sealed B).drop B.length = dg (sumR off0 B) 8 := by unfold sealed; rw [List.drop_left]
  refine ⟨?_, ?_⟩
  · unfold openE
    rw [if_neg (by omega), if_neg, if_neg]
    · rintro (h | h)
      · omega
      · rw [e8, htB, hdB] at h
        exact h (sum_fwd (rest := []) (by rw [List.drop_zero, List.append_nil]) (sum0_in B))
    · rintro (h | h)
      · omega
      · rw [ht4, hm, beq_self_eq_true] at h
        cases h
  · unfold midB
    rw [hsl]
    unfold sealed
    rw [List.drop_append_of_le_length h4, List.take_append_of_le_length (by rw [List.length_drop]; omega), List.take_of_length_le (by rw [List.length_drop]; omega)]
theorem hdQ_len (r : ReqV) : (hdQ r).length = 36 := by unfold hdQ; simp [p32_len, p64_len]
theorem hdQ_fwd {m rest : List Int} {r : ReqV} (h : m = (hdQ r).drop 4 ++ rest) (hh : r.head = 0) :
    hdQ0 m = ⟨⟨r.client, r.seq, r.ack, r.epoch, r.op, 0, 0, 0, 0, ⟨#[]⟩, ⟨#[]⟩, ⟨#[]⟩, ⟨none, 0, 0⟩⟩, [], 32, 0⟩ := by
  have ht : top = 4611686018427387904 := rfl
  have hr : (0 ≤ r.client ∧ r.client < 8) ∧ (1 ≤ r.seq ∧ r.seq ≤ top ∧ 0 ≤ r.ack ∧ r.ack < r.seq) ∧ (0 ≤ r.epoch ∧ r.epoch ≤ top) ∧ (1 ≤ r.op ∧ r.op ≤ 10) := by
    unfold ReqV.head at hh
    split at hh
    · cases hh
    · split at hh
      · cases hh
      · split at hh
        · cases hh
        · split at hh
          · cases hh
          · omega
  obtain ⟨r1, r2, r3, r4⟩ := hr
  have hm : m = p32 r.client ++ (p64 r.seq ++ (p64 r.ack ++ (p64 r.epoch ++ (p32 r.op ++ rest)))) := by
    rw [h]
    unfold hdQ
    simp only [List.append_assoc]
    rfl
  have h1 : m.drop 0 = p32 r.client ++ (p64 r.seq ++ (p64 r.ack ++ (p64 r.epoch ++ (p32 r.op ++ rest)))) := by rw [List.drop_zero]; exact hm
  have h2 : m.drop 4 = p64 r.seq ++ (p64 r.ack ++ (p64 r.epoch ++ (p32 r.op ++ rest))) := by have h := (drop_more h1).symm; rw [p32_len] at h; exact h
  have h3 : m.drop 12 = p64 r.ack ++ (p64 r.epoch ++ (p32 r.op ++ rest)) := by have h := (drop_more h2).symm; rw [p64_len] at h; exact h
  have h4 : m.drop 20 = p64 r.epoch ++ (p32 r.op ++ rest) := by have h := (drop_more h3).symm; rw [p64_len] at h; exact h
  have h5 : m.drop 28 = p32 r.op ++ rest := by have h := (drop_more h4).symm; rw [p64_len] at h; exact h
  have e1 : U32R m 0 0 mst32 = (r.client, 4, 0) := u32_fwd h1 ⟨r1.1, by show r.client ≤ 4294967295; omega⟩ (Int.le_refl _)
  have e2 : U64R m 4 0 mst64 = (r.seq, 12, 0) := u64_fwd h2 (by omega)
  have e3 : U64R m 12 0 mst64 = (r.ack, 20, 0) := u64_fwd h3 (by omega)
  have e4 : U64R m 20 0 mst64 = (r.epoch, 28, 0) := u64_fwd h4 (by omega)
  have e5 : U32R m 28 0 mst32 = (r.op, 32, 0) := u32_fwd h5 ⟨by omega, by show r.op ≤ 4294967295; omega⟩ (Int.le_refl _)
  unfold hdQ0
  simp only [e1, e2, e3, e4, e5]
theorem bare_chk (r : ReqV) {n : Nat} (h : n = r.dv.len) : (r.bare n).chk = r.chk := r.chk_dv ⟨none, n, 0⟩ h
theorem strOf_mgQ : strOf [65, 78, 81, 49] = mgQ := rfl
theorem strOf_mgR : strOf [65, 78, 82, 49] = mgR := rfl
theorem hdQ_take (r : ReqV) (l : List Int) : (hdQ r ++ l).take 4 = [65, 78, 81, 49] := by
  unfold hdQ
  simp only [List.append_assoc]
  rfl
/-- THE WAY THERE AND BACK. -/
theorem decQ_enc {r : ReqV} {ds : List Int} (hd : ds.length = r.dv.len) (h : r.chk = 0) : decQ (encReq r ds) = (r.bare ds.length, ds, 0) ∧ (encReq r ds).length ≤ 1400 ∧ (encReq r ds).take 4 = [65, 78, 81, 49] ∧ 12 ≤ (encReq r ds).length := by
  obtain ⟨hh, hok, hz⟩ := chk_ok h
  have ho := head_op hh
  have he : encReq r ds = sealed (hdQ r ++ encQ r ds (rqFs r.op)) := by unfold encReq; rw [if_pos h]
  have hc1 := encQ_cap hd (rqFs r.op) hok
  have hc2 := rqFs_cap ho
  have hl : (hdQ r ++ encQ r ds (rqFs r.op)).length ≤ 1392 := by rw [List.length_append, hdQ_len]; omega
  have hl4 : 4 ≤ (hdQ r ++ encQ r ds (rqFs r.op)).length := by rw [List.length_append, hdQ_len]; omega
  obtain ⟨o1, o2⟩ := open_sealed (mg := mgQ) (by rw [hdQ_take]; exact strOf_mgQ) hl4 hl
  have hm : midB (encReq r ds) = (hdQ r).drop 4 ++ encQ r ds (rqFs r.op) := by
    rw [he, o2, List.drop_append_of_le_length (by rw [hdQ_len]; decide)]
  have hml : ((hdQ r).drop 4).length = 32 := by rw [List.length_drop, hdQ_len]
  have hx0 := hdQ_fwd hm hh
  obtain ⟨m, hmm⟩ : ∃ m, midB (encReq r ds) = m := ⟨_, rfl⟩
  rw [hmm] at hm hx0
  have hdr : m.drop 32 = encQ r ds (rqFs r.op) ++ [] := by
    rw [hm, List.append_nil, List.drop_append_of_le_length (by omega), List.drop_of_length_le (by omega), List.nil_append]
  have ht := takeQs_fwd (m := m) hd (rqFs r.op) (rest := []) (x := ⟨⟨r.client, r.seq, r.ack, r.epoch, r.op, 0, 0, 0, 0, ⟨#[]⟩, ⟨#[]⟩, ⟨#[]⟩, ⟨none, 0, 0⟩⟩, [], 32, 0⟩) rfl hdr hok (rqFs_lenOk _)
  obtain ⟨s1, s2⟩ := set_all hd ho hz
  dsimp only at ht
  rw [s1, s2] at ht
  have hlm : m.length = 32 + (encQ r ds (rqFs r.op)).length := by rw [hm, List.length_append, hml]
  have hsl : (encReq r ds).length = (hdQ r ++ encQ r ds (rqFs r.op)).length + 8 := by rw [he]; unfold sealed; rw [List.length_append, dg_len]
  refine ⟨?_, by omega, ?_, by rw [hsl, List.length_append, hdQ_len]; omega⟩
  · unfold decQ
    rw [hmm, he, o1, if_neg (by simp), hx0]
    dsimp only
    rw [if_neg (by simp), if_neg (by
      show ¬ (r.head ≠ 0)
      simp [hh]), ht]
    unfold finQ
    dsimp only
    have hcl : CloseR m (32 + (encQ r ds (rqFs r.op)).length) 0 = 0 := if_neg (fun h => by omega)
    have hfin : (⟨{ r with dv := ⟨none, 0, 0⟩ }, ds, 32 + (encQ r ds (rqFs r.op)).length, 0⟩ : TkQ).fin = r.bare ds.length := rfl
    rw [hcl, if_neg (by simp), hfin, bare_chk r hd, h, if_neg (by simp)]
  · rw [he]
    unfold sealed
    rw [List.take_append_of_le_length hl4, hdQ_take]
end Go.Proofs.YtfolhmlldoepfaaGreatDoor
namespace Go.Proofs.YtfolhmlldoepfaaGreatDoor
open Go Go.Proofs Go.RowKit
set_option maxRecDepth 4000
theorem takeQ_bwd {m : List Int} (hb : Byts m) (f : RqF) {x : TkQ} (h : (f.take m x).er = 0) : x.er = 0 ∧ m.drop x.at_ = f.enc (f.take m x).r (f.take m x).ds ++ m.drop (f.take m x).at_ := by
  have text : ∀ most : Int, (BodyR m x.at_ x.er most).2.2 = 0 → x.er = 0 ∧ m.drop x.at_ = fieldB (strBytes (strOf (BodyR m x.at_ x.er most).1)) ++ m.drop (BodyR m x.at_ x.er most).2.1 := fun most h => by
    obtain ⟨h1, h2, h3⟩ := body_bwd hb h
    rw [strBytes_of h3]
    exact ⟨h1, h2⟩
  cases f with
  | id => exact u64_bwd hb h
  | off => exact ⟨(u32_bwd hb h).1, (u32_bwd hb h).2.1⟩
  | len l => exact ⟨(u32_bwd hb h).1, (u32_bwd hb h).2.1⟩
  | path => exact text 384 h
  | name b => exact text 23 h
  | id2 => exact u64_bwd hb h
  | name2 => exact text 23 h
  | data => exact ⟨(body_bwd hb h).1, (body_bwd hb h).2.1⟩
def RqF.ix : RqF → Nat
  | .id => 0
  | .off => 1
  | .len _ => 2
  | .path => 3
  | .name _ => 4
  | .id2 => 5
  | .name2 => 6
  | .data => 7
theorem takeQ_pres {m : List Int} {x : TkQ} (f g : RqF) (h : f.ix ≠ g.ix) : f.enc (g.take m x).r (g.take m x).ds = f.enc x.r x.ds := by
  cases f <;> cases g <;> first | rfl | exact absurd rfl h
theorem takeQs_pres {m : List Int} (f : RqF) : ∀ (fs : List RqF) {x : TkQ}, (∀ g ∈ fs, f.ix ≠ g.ix) → f.enc (takeQs m x fs).r (takeQs m x fs).ds = f.enc x.r x.ds
  | [], _, _ => rfl
  | g :: fs, x, h => (takeQs_pres f fs (x := g.take m x) fun g' hg => h g' (.tail _ hg)).trans (takeQ_pres f g (h g (.head _)))
theorem takeQs_bwd {m : List Int} (hb : Byts m) : ∀ (fs : List RqF) {x : TkQ}, fs.Pairwise (fun f g => f.ix ≠ g.ix) → (takeQs m x fs).er = 0 → x.er = 0 ∧ m.drop x.at_ = encQ (takeQs m x fs).r (takeQs m x fs).ds fs ++ m.drop (takeQs m x fs).at_
  | [], _, _, h => ⟨h, rfl⟩
  | f :: fs, x, hp, h => by
    rw [List.pairwise_cons] at hp
    obtain ⟨h1, h2⟩ := takeQs_bwd hb fs (x := f.take m x) hp.2 h
    obtain ⟨h3, h4⟩ := takeQ_bwd hb f h1
    refine ⟨h3, ?_⟩
    show m.drop x.at_ = f.enc (takeQs m (f.take m x) fs).r (takeQs m (f.take m x) fs).ds ++ encQ (takeQs m (f.take m x) fs).r (takeQs m (f.take m x) fs).ds fs ++ m.drop (takeQs m (f.take m x) fs).at_
    rw [takeQs_pres f fs hp.1, List.append_assoc, ← h2]
    exact h4
theorem rqFs_pw {op : Int} (ho : 1 ≤ op ∧ op ≤ 10) : (rqFs op).Pairwise (fun f g => f.ix ≠ g.ix) := by
  have hc : op = 1 ∨ op = 2 ∨ op = 3 ∨ op = 4 ∨ op = 5 ∨ op = 6 ∨ op = 7 ∨ op = 8 ∨ op = 9 ∨ op = 10 := by omega
  rcases hc with rfl | rfl | rfl | rfl | rfl | rfl | rfl | rfl | rfl | rfl <;> decide
theorem takeQ_hd {m : List Int} {x : TkQ} (f : RqF) : hdQ (f.take m x).r = hdQ x.r ∧ (f.take m x).r.op = x.r.op := by cases f <;> exact ⟨rfl, rfl⟩
theorem takeQs_hd {m : List Int} : ∀ (fs : List RqF) {x : TkQ}, hdQ (takeQs m x fs).r = hdQ x.r ∧ (takeQs m x fs).r.op = x.r.op
  | [], _ => ⟨rfl, rfl⟩
  | f :: fs, x => ⟨(takeQs_hd fs (x := f.take m x)).1.trans (takeQ_hd f).1, (takeQs_hd fs (x := f.take m x)).2.trans (takeQ_hd f).2⟩
theorem encQ_dv (r : ReqV) (sl : SlV) (ds : List Int) (fs : List RqF) : encQ { r with dv := sl } ds fs = encQ r ds fs := by
  unfold encQ
  refine congrArg (fun g => fs.flatMap g) (funext fun f => ?_)
  cases f <;> rfl
theorem hdQ_bwd {m : List Int} (hb : Byts m) (h : (hdQ0 m).er = 0) : m = (hdQ (hdQ0 m).r).drop 4 ++ m.drop (hdQ0 m).at_ := by
  unfold hdQ0 at h ⊢
  dsimp only at h ⊢
  obtain ⟨⟨va, pa, ea⟩, ha⟩ : ∃ a, U32R m 0 0 mst32 = a := ⟨_, rfl⟩
  rw [ha] at h ⊢
  dsimp only at h ⊢
  obtain ⟨⟨vb, pb, eb⟩, hb'⟩ : ∃ a, U64R m pa ea mst64 = a := ⟨_, rfl⟩
  rw [hb'] at h ⊢
  dsimp only at h ⊢
  obtain ⟨⟨vc, pc, ec⟩, hc'⟩ : ∃ a, U64R m pb eb mst64 = a := ⟨_, rfl⟩
  rw [hc'] at h ⊢
  dsimp only at h ⊢
  obtain ⟨⟨vd, pd, ed⟩, hd'⟩ : ∃ a, U64R m pc ec mst64 = a := ⟨_, rfl⟩
  rw [hd'] at h ⊢
  dsimp only at h ⊢
  obtain ⟨⟨ve, pe, ee⟩, he'⟩ : ∃ a, U32R m pd ed mst32 = a := ⟨_, rfl⟩
  rw [he'] at h ⊢
  dsimp only at h ⊢
  have k5 := u32_bwd hb (at_ := pd) (er := ed) (by rw [he']; exact h)
  rw [he'] at k5
  have k4 := u64_bwd hb (at_ := pc) (er := ec) (by rw [hd']; exact k5.1)
  rw [hd'] at k4
  have k3 := u64_bwd hb (at_ := pb) (er := eb) (by rw [hc']; exact k4.1)
  rw [hc'] at k3
  have k2 := u64_bwd hb (at_ := pa) (er := ea) (by rw [hb']; exact k3.1)
  rw [hb'] at k2
  have k1 := u32_bwd hb (at_ := 0) (er := 0) (by rw [ha]; exact k2.1)
  rw [ha] at k1
  dsimp only at k1 k2 k3 k4 k5
  rw [List.drop_zero, k2.2, k3.2, k4.2, k5.2.1] at k1
  refine k1.2.1.trans ?_
  unfold hdQ
  simp only [List.append_assoc]
  rfl
theorem open_ok {bs : List Int} {mg : ByteArray} (hb : Byts bs) (h : openE bs mg = 0) : bs.length ≤ 1400 ∧ 12 ≤ bs.length ∧ bs.take 4 = strBytes mg ∧ bs = sealed (bs.take 4 ++ midB bs) := by
  unfold openE at h
  split at h
  · cases h
  · rename_i h1
    split at h
    · cases h
    · rename_i h2
      split at h
      · cases h
      · rename_i h3
        have h12 : 12 ≤ bs.length := Nat.le_of_not_lt fun h => h3 (.inl h)
        have hs : N8 (bs.drop (bs.length - 8)) 0 = sumR off0 (bs.take (bs.length - 8)) := Classical.not_not.1 fun h => h3 (.inr h)
        have hmg : strOf (bs.take 4) = mg := by
          refine toList_inj ?_
          cases h4 : ((strOf (bs.take 4)).toList == mg.toList) with
          | true => simpa using h4
          | false => exact absurd (.inr h4) h2
        refine ⟨by omega, h12, ?_, ?_⟩
        · rw [← hmg, strBytes_of (fun x hx => hb x (List.mem_of_mem_take hx))]
        · have e1 : bs.take 4 ++ midB bs = bs.take (bs.length - 8) := by
            unfold midB
            rw [show bs.length - 8 = 4 + (bs.length - 12) by omega, List.take_add]
          have h8 : (bs.drop (bs.length - 8)).length = 8 := by rw [List.length_drop]; omega
          have e2 := again8 (bs := bs.drop (bs.length - 8)) (at_ := 0) (fun x hx => hb x (List.mem_of_mem_drop hx)) (by omega)
          rw [List.drop_zero, List.take_of_length_le (by omega), hs] at e2
          unfold sealed
          rw [e1, e2, List.take_append_drop]
/-- WHAT IS READ HAS JUST THESE BYTES. -/
theorem enc_decQ {bs : List Int} (hb : Byts bs) (h : (decQ bs).2.2 = 0) : encReq (decQ bs).1 (decQ bs).2.1 = bs ∧ (decQ bs).1.chk = 0 ∧ (decQ bs).2.1.length = (decQ bs).1.dv.len ∧ openE bs mgQ = 0 := by
  by_cases q1 : openE bs mgQ = 0
  case neg => rw [show decQ bs = (.z, [], openE bs mgQ) from if_pos q1] at h; exact absurd h q1
  obtain ⟨_, _, hmg, hbs⟩ := open_ok hb q1
  have hmb := midB_byts hb
  obtain ⟨m, hm⟩ : ∃ m, midB bs = m := ⟨_, rfl⟩
  have e1 : decQ bs = if (hdQ0 m).er ≠ 0 then (.z, [], (hdQ0 m).er) else if (hdQ0 m).r.head ≠ 0 then (.z, [], (hdQ0 m).r.head) else finQ m (takeQs m (hdQ0 m) (rqFs (hdQ0 m).r.op)) := by
    unfold decQ
    rw [hm, if_neg (fun h => h q1)]
  rw [hm] at hmb hbs
  by_cases q2 : (hdQ0 m).er = 0
  case neg => rw [e1, if_pos q2] at h; exact absurd h q2
  by_cases q3 : (hdQ0 m).r.head = 0
  case neg => rw [e1, if_neg (fun h => h q2), if_pos q3] at h; exact absurd h q3
  rw [if_neg (fun h => h q2), if_neg (fun h => h q3)] at e1
  have hhd := hdQ_bwd hmb q2
  obtain ⟨x0, hx0⟩ : ∃ x0, hdQ0 m = x0 := ⟨_, rfl⟩
  rw [hx0] at e1 hhd q2 q3
  have hop := head_op q3
  obtain ⟨fs, hfs⟩ : ∃ fs, rqFs x0.r.op = fs := ⟨_, rfl⟩
  obtain ⟨y, hy⟩ : ∃ y, takeQs m x0 fs = y := ⟨_, rfl⟩
  rw [hfs, hy] at e1
  by_cases q4 : CloseR m y.at_ y.er = 0
  case neg => rw [e1] at h; unfold finQ at h; rw [if_pos q4] at h; exact absurd h q4
  by_cases q5 : y.fin.chk = 0
  case neg => rw [e1] at h; unfold finQ at h; rw [if_neg (fun h => h q4), if_pos q5] at h; exact absurd h q5
  have e2 : decQ bs = (y.fin, y.ds, 0) := by rw [e1]; unfold finQ; rw [if_neg (fun h => h q4), if_neg (fun h => h q5)]
  rw [e2]
  dsimp only
  have hye : y.er = 0 ∧ m.drop y.at_ = [] := by
    unfold CloseR at q4
    split at q4
    · cases q4
    · rename_i h6
      refine ⟨q4, List.drop_eq_nil_of_le ?_⟩
      have := fun h => h6 ⟨q4, h⟩
      omega
  have hb2 := takeQs_bwd hmb fs (x := x0) (by rw [← hfs]; exact rqFs_pw hop) (by rw [hy]; exact hye.1)
  rw [hy, hye.2, List.append_nil] at hb2
  have hh2 := takeQs_hd (m := m) fs (x := x0)
  rw [hy] at hh2
  refine ⟨?_, q5, rfl, q1⟩
  unfold encReq
  rw [if_pos q5]
  have e3 : hdQ y.fin = hdQ x0.r := hh2.1
  have e4 : y.fin.op = x0.r.op := hh2.2
  have e5 : encQ y.fin y.ds fs = encQ y.r y.ds fs := encQ_dv y.r _ _ _
  rw [e3, e4, hfs, e5, ← hb2.2]
  have e6 : hdQ x0.r = bs.take 4 ++ (hdQ x0.r).drop 4 := by
    rw [hmg]
    unfold hdQ
    simp only [List.append_assoc]
    rfl
  conv => rhs; rw [hbs, hhd]
  rw [e6, List.append_assoc, ← e6]
end Go.Proofs.YtfolhmlldoepfaaGreatDoor
namespace Go.Proofs.YtfolhmlldoepfaaGreatDoor
open Go Go.Proofs Go.RowKit
set_option maxRecDepth 4000
theorem p32_cut {m rest : List Int} {at_ : Nat} {x : Int} (h : m.drop at_ = p32 x ++ rest) : m.drop (at_ + 4) = rest := by
  have h := (drop_more h).symm
  rw [p32_len] at h
  exact h
theorem p64_cut {m rest : List Int} {at_ : Nat} {x : Int} (h : m.drop at_ = p64 x ++ rest) : m.drop (at_ + 8) = rest := by
  have h := (drop_more h).symm
  rw [p64_len] at h
  exact h
theorem entT_fwd {m rest : List Int} {l : List EntV} {at_ : Nat} {e : EntV} (h : m.drop at_ = entEnc e ++ rest) (hn : e.name.size ≤ 23) (hi : 0 ≤ e.id ∧ e.id ≤ 562949953421311) (hk : 0 ≤ e.kind ∧ e.kind ≤ 2) :
    entT m (l, at_, 0) = (l ++ [e], at_ + (entEnc e).length, 0) := by
  unfold entEnc at h ⊢
  rw [List.append_assoc, List.append_assoc] at h
  have h1 := text_fwd (most := 23) h (by omega) (by decide)
  have h2 := (drop_more h).symm
  have h3 := u64_fwd h2 (by omega)
  have h4 := p64_cut h2
  have h5 := u32_fwd h4 (most := mst32) ⟨hk.1, by show e.kind ≤ 4294967295; omega⟩ (Int.le_refl _)
  unfold entT
  dsimp only
  rw [h1]
  dsimp only
  rw [h3]
  dsimp only
  rw [h5, strOf_bytes, List.length_append, List.length_append, p64_len, p32_len]
  rfl
theorem entsT_fwd {m rest : List Int} {at_ : Nat} {es : List EntV} (h : m.drop at_ = es.flatMap entEnc ++ rest) (hes : ∀ e ∈ es, e.name.size ≤ 23 ∧ (0 ≤ e.id ∧ e.id ≤ 562949953421311) ∧ 0 ≤ e.kind ∧ e.kind ≤ 2) :
    ∀ n, n ≤ es.length → entsT m n ([], at_, 0) = (es.take n, at_ + ((es.take n).flatMap entEnc).length, 0)
  | 0, _ => rfl
  | n + 1, hn => by
    have ih := entsT_fwd h hes n (by omega)
    obtain ⟨e, he⟩ : ∃ e, es[n]? = some e := ⟨_, List.getElem?_eq_getElem (by omega)⟩
    have hsp : es.flatMap entEnc = (es.take n).flatMap entEnc ++ (entEnc e ++ (es.drop (n + 1)).flatMap entEnc) := by
      conv => lhs; rw [← List.take_append_drop n es, List.drop_eq_getElem_cons (by omega), List.flatMap_append, List.flatMap_cons]
      rw [show es[n] = e from (List.getElem?_eq_some_iff.1 he).2]
    rw [hsp, List.append_assoc, List.append_assoc] at h
    have h2 := (drop_more h).symm
    obtain ⟨k1, k2, k3⟩ := hes e (List.mem_iff_getElem?.2 ⟨n, he⟩)
    show entT m (entsT m n ([], at_, 0)) = _
    rw [ih, entT_fwd h2 k1 k2 k3, List.take_add_one, he, List.flatMap_append, List.length_append, Nat.add_assoc]
    simp
theorem entT_bwd {m : List Int} (hb : Byts m) {x : List EntV × Nat × Int} (h : (entT m x).2.2 = 0) : x.2.2 = 0 ∧ ∃ e, (entT m x).1 = x.1 ++ [e] ∧ m.drop x.2.1 = entEnc e ++ m.drop (entT m x).2.1 := by
  unfold entT at h ⊢
  dsimp only at h ⊢
  have h3 := u32_bwd hb h
  have h2 := u64_bwd hb h3.1
  have h1 := body_bwd hb h2.1
  refine ⟨h1.1, _, rfl, ?_⟩
  unfold entEnc
  dsimp only
  rw [strBytes_of h1.2.2, List.append_assoc, List.append_assoc, ← h3.2.1, ← h2.2]
  exact h1.2.1
theorem entsT_bwd {m : List Int} (hb : Byts m) {x : List EntV × Nat × Int} : ∀ n, (entsT m n x).2.2 = 0 → x.2.2 = 0 ∧ ∃ l, (entsT m n x).1 = x.1 ++ l ∧ l.length = n ∧ m.drop x.2.1 = l.flatMap entEnc ++ m.drop (entsT m n x).2.1
  | 0, h => ⟨h, [], (List.append_nil _).symm, rfl, rfl⟩
  | n + 1, h => by
    obtain ⟨h1, e, h2, h3⟩ := entT_bwd hb (x := entsT m n x) h
    obtain ⟨k1, l, k2, k3, k4⟩ := entsT_bwd hb n h1
    refine ⟨k1, l ++ [e], ?_, by rw [List.length_append, k3]; rfl, ?_⟩
    · show (entT m (entsT m n x)).1 = _
      rw [h2, k2, List.append_assoc]
    · rw [k4, h3, List.flatMap_append, List.flatMap_cons, List.flatMap_nil, List.append_nil, List.append_assoc]
      rfl
def RepV.bare (r : RepV) (n k : Nat) : RepV := { r with dv := ⟨none, n, 0⟩, lv := ⟨none, k, 0⟩ }
theorem bareP_chk (r : RepV) (es : List EntV) {n k : Nat} (h : n = r.dv.len) (hk : k = r.lv.len) : (r.bare n k).chk es = r.chk es := r.chk_dv es ⟨none, n, 0⟩ ⟨none, k, 0⟩ h hk
theorem listB_ok : ∀ (es : List EntV) (p : Option EntV), listB p es = true → ∀ e ∈ es, e.name.size ≤ 23 ∧ (0 ≤ e.id ∧ e.id ≤ 562949953421311) ∧ 0 ≤ e.kind ∧ e.kind ≤ 2
  | e :: es, p, h, e', he => by
    unfold listB at h
    rw [Bool.and_eq_true] at h
    rcases List.mem_cons.1 he with rfl | he
    · have h1 := h.1
      unfold entB at h1
      simp only [Bool.and_eq_true, Bool.or_eq_true, decide_eq_true_eq] at h1
      have h2 := of_decide_eq_true (show decide (1 ≤ e'.id ∧ e'.id ≤ 562949953421311) = true from h1.1.1.2)
      refine ⟨nm_size2 h1.1.1.1, by omega, ?_⟩
      rcases h1.1.2 with h | h <;> omega
    · exact listB_ok es _ h.2 e' he
theorem attr_ok {op id kind size change : Int} (h : attrB op id kind size change = true) : (0 ≤ id ∧ id ≤ 562949953421311) ∧ (0 ≤ kind ∧ kind ≤ 2) ∧ (0 ≤ size ∧ size ≤ 69632) ∧ 0 ≤ change ∧ change ≤ 4611686018427387904 := by
  have ht : top = 4611686018427387904 := rfl
  unfold attrB at h
  have h := of_decide_eq_true h
  omega
theorem hdP_len (r : RepV) : (hdP r).length = 32 := by unfold hdP; simp [p32_len, p64_len]
theorem isSt_in {e : Int} (h : isSt e = true) : 0 ≤ e ∧ e ≤ 152 := by
  have h := of_decide_eq_true h
  omega
theorem headP_in {r : RepV} (hh : r.head = 0) : (0 ≤ r.client ∧ r.client < 8) ∧ (1 ≤ r.seq ∧ r.seq ≤ 4611686018427387904) ∧ (1 ≤ r.epoch ∧ r.epoch ≤ 4611686018427387904) ∧ (1 ≤ r.op ∧ r.op ≤ 10) ∧ isSt r.status = true := by
  have ht : top = 4611686018427387904 := rfl
  unfold RepV.head at hh
  split at hh
  · cases hh
  · split at hh
    · cases hh
    · split at hh
      · cases hh
      · split at hh
        · cases hh
        · split at hh
          · cases hh
          · rename_i h5
            refine ⟨by omega, by omega, by omega, by omega, ?_⟩
            cases h6 : isSt r.status with
            | true => rfl
            | false => exact absurd h6 h5
theorem hdP_fwd {m rest : List Int} {r : RepV} (h : m = (hdP r).drop 4 ++ rest) (hh : r.head = 0) :
    hdP0 m = ⟨⟨r.client, r.seq, r.epoch, r.op, r.status, 0, 0, 0, 0, ⟨none, 0, 0⟩, ⟨none, 0, 0⟩, false⟩, [], [], 28, 0, false⟩ := by
  obtain ⟨r1, r2, r3, r4, r5⟩ := headP_in hh
  have r6 := isSt_in r5
  have hm : m = p32 r.client ++ (p64 r.seq ++ (p64 r.epoch ++ (p32 r.op ++ (p32 r.status ++ rest)))) := by
    rw [h]
    unfold hdP
    simp only [List.append_assoc]
    rfl
  have h1 : m.drop 0 = p32 r.client ++ (p64 r.seq ++ (p64 r.epoch ++ (p32 r.op ++ (p32 r.status ++ rest)))) := by rw [List.drop_zero]; exact hm
  have h2 : m.drop 4 = _ := p32_cut h1
  have h3 : m.drop 12 = _ := p64_cut h2
  have h4 : m.drop 20 = _ := p64_cut h3
  have h5 : m.drop 24 = _ := p32_cut h4
  have e1 : U32R m 0 0 mst32 = (r.client, 4, 0) := u32_fwd h1 ⟨r1.1, by show r.client ≤ 4294967295; omega⟩ (Int.le_refl _)
  have e2 : U64R m 4 0 mst64 = (r.seq, 12, 0) := u64_fwd h2 (by omega)
  have e3 : U64R m 12 0 mst64 = (r.epoch, 20, 0) := u64_fwd h3 (by omega)
  have e4 : U32R m 20 0 mst32 = (r.op, 24, 0) := u32_fwd h4 ⟨by omega, by show r.op ≤ 4294967295; omega⟩ (Int.le_refl _)
  have e5 : U32R m 24 0 mst32 = (r.status, 28, 0) := u32_fwd h5 ⟨by omega, by show r.status ≤ 4294967295; omega⟩ (Int.le_refl _)
  unfold hdP0
  simp only [e1, e2, e3, e4, e5]
theorem hdP_bwd {m : List Int} (hb : Byts m) (h : (hdP0 m).er = 0) : m = (hdP (hdP0 m).r).drop 4 ++ m.drop (hdP0 m).at_ := by
  unfold hdP0 at h ⊢
  dsimp only at h ⊢
  obtain ⟨⟨va, pa, ea⟩, ha⟩ : ∃ a, U32R m 0 0 mst32 = a := ⟨_, rfl⟩
  rw [ha] at h ⊢
  dsimp only at h ⊢
  obtain ⟨⟨vb, pb, eb⟩, hb'⟩ : ∃ a, U64R m pa ea mst64 = a := ⟨_, rfl⟩
  rw [hb'] at h ⊢
  dsimp only at h ⊢
  obtain ⟨⟨vc, pc, ec⟩, hc'⟩ : ∃ a, U64R m pb eb mst64 = a := ⟨_, rfl⟩
  rw [hc'] at h ⊢
  dsimp only at h ⊢
  obtain ⟨⟨vd, pd, ed⟩, hd'⟩ : ∃ a, U32R m pc ec mst32 = a := ⟨_, rfl⟩
  rw [hd'] at h ⊢
  dsimp only at h ⊢
  obtain ⟨⟨ve, pe, ee⟩, he'⟩ : ∃ a, U32R m pd ed mst32 = a := ⟨_, rfl⟩
  rw [he'] at h ⊢
  dsimp only at h ⊢
  have k5 := u32_bwd hb (at_ := pd) (er := ed) (by rw [he']; exact h)
  rw [he'] at k5
  have k4 := u32_bwd hb (at_ := pc) (er := ec) (by rw [hd']; exact k5.1)
  rw [hd'] at k4
  have k3 := u64_bwd hb (at_ := pb) (er := eb) (by rw [hc']; exact k4.1)
  rw [hc'] at k3
  have k2 := u64_bwd hb (at_ := pa) (er := ea) (by rw [hb']; exact k3.1)
  rw [hb'] at k2
  have k1 := u32_bwd hb (at_ := 0) (er := 0) (by rw [ha]; exact k2.1)
  rw [ha] at k1
  dsimp only at k1 k2 k3 k4 k5
  rw [List.drop_zero, k2.2, k3.2, k4.2.1, k5.2.1] at k1
  refine k1.2.1.trans ?_
  unfold hdP
  simp only [List.append_assoc]
  rfl
theorem rpFs_ways (r : RepV) (ho : 1 ≤ r.op ∧ r.op ≤ 10) : rpFs' r = [] ∨ rpFs' r = [.attr r.op] ∨ rpFs' r = [.attr r.op, .cont] ∨ rpFs' r = [.list, .more] := by
  unfold rpFs'
  split
  · obtain ⟨op, hop⟩ : ∃ op, r.op = op := ⟨_, rfl⟩
    rw [hop] at ho ⊢
    have hc : op = 1 ∨ op = 2 ∨ op = 3 ∨ op = 4 ∨ op = 5 ∨ op = 6 ∨ op = 7 ∨ op = 8 ∨ op = 9 ∨ op = 10 := by omega
    rcases hc with rfl | rfl | rfl | rfl | rfl | rfl | rfl | rfl | rfl | rfl <;> first | exact .inl rfl | exact .inr (.inl rfl) | exact .inr (.inr (.inl rfl)) | exact .inr (.inr (.inr rfl))
  · exact .inl rfl
theorem attrT_fwd {m rest ds : List Int} {es : List EntV} {r : RepV} {x : TkP} {o : Int} (hx : x.er = 0) (h : m.drop x.at_ = (RpF.attr o).enc r ds es ++ rest) (hok : attrB o r.aid r.akind r.asize r.achange = true) :
    (RpF.attr o).take m x = ⟨{ x.r with aid := r.aid, akind := r.akind, asize := r.asize, achange := r.achange }, x.ds, x.es, x.at_ + 24, 0, x.ov⟩ := by
  obtain ⟨k1, k2, k3, k4⟩ := attr_ok hok
  obtain ⟨q, d, l, at_, er, ov⟩ := x
  dsimp only at hx h ⊢
  subst hx
  have h1 : m.drop at_ = p64 r.aid ++ (p32 r.akind ++ (p32 r.asize ++ (p64 r.achange ++ rest))) := by
    rw [h]
    show (p64 _ ++ p32 _ ++ p32 _ ++ p64 _) ++ rest = _
    simp only [List.append_assoc]
  have h2 := p64_cut h1
  have h3 := p32_cut h2
  have h4 := p32_cut h3
  have e1 := u64_fwd h1 (by omega)
  have e2 := u32_fwd h2 (most := mst32) ⟨k2.1, by show r.akind ≤ 4294967295; omega⟩ (Int.le_refl _)
  have e3 := u32_fwd h3 (most := mst32) ⟨k3.1, by show r.asize ≤ 4294967295; omega⟩ (Int.le_refl _)
  have e4 := u64_fwd h4 (by omega)
  simp only [RpF.take, e1, e2, e3, e4]
theorem zeroP_eq {r : RepV} (h : r.zeroB = true) : (r.aid = 0 ∧ r.akind = 0 ∧ r.asize = 0 ∧ r.achange = 0) ∧ r.dv.len = 0 ∧ r.lv.len = 0 ∧ r.more = false := by
  unfold RepV.zeroB at h
  rw [Bool.and_eq_true, Bool.and_eq_true, Bool.and_eq_true, decide_eq_true_iff, decide_eq_true_iff, decide_eq_true_iff] at h
  exact ⟨h.1.1.1, h.1.1.2, h.1.2, by simpa using h.2⟩
theorem encRep_take {r : RepV} {ds : List Int} {es : List EntV} (hd : ds.length = r.dv.len) (hl : es.length = r.lv.len) (h : r.chk es = 0) {m : List Int} (hm : m.drop 28 = encP r ds es (rpFs' r)) :
    takePs m ⟨⟨r.client, r.seq, r.epoch, r.op, r.status, 0, 0, 0, 0, ⟨none, 0, 0⟩, ⟨none, 0, 0⟩, false⟩, [], [], 28, 0, false⟩ (rpFs' r) = ⟨{ r with dv := ⟨none, 0, 0⟩, lv := ⟨none, 0, 0⟩ }, ds, es, 28 + (encP r ds es (rpFs' r)).length, 0, false⟩ ∧ (encP r ds es (rpFs' r)).length ≤ 1100 := by
  obtain ⟨hh, hok, hz⟩ := chkP_ok h
  have ho := headP_op hh
  have hcl : clrP' r = clrAllP r (rpFs' r) := rfl
  rw [hcl] at hz
  obtain ⟨client, seq, epoch, op, status, aid, akind, asize, achange, ⟨da, dn, dc⟩, ⟨la, ln, lc⟩, more⟩ := r
  obtain ⟨r, hr⟩ : ∃ r : RepV, r = ⟨client, seq, epoch, op, status, aid, akind, asize, achange, ⟨da, dn, dc⟩, ⟨la, ln, lc⟩, more⟩ := ⟨_, rfl⟩
  rw [← hr] at hm hok hz ho ⊢
  rcases rpFs_ways r ho with hw | hw | hw | hw
  all_goals rw [hw] at hm hok hz ⊢
  · rw [hr] at hz
    obtain ⟨z0, z5', z6', z7'⟩ := zeroP_eq hz
    have z1 : aid = 0 := z0.1
    have z2 : akind = 0 := z0.2.1
    have z3 : asize = 0 := z0.2.2.1
    have z4 : achange = 0 := z0.2.2.2
    have z5 : dn = 0 := z5'
    have z6 : ln = 0 := z6'
    have z7 : more = false := z7'
    dsimp only at hd hl
    obtain rfl := List.eq_nil_of_length_eq_zero (hd.trans z5)
    obtain rfl := List.eq_nil_of_length_eq_zero (hl.trans z6)
    subst_vars
    exact ⟨rfl, Nat.zero_le _⟩
  · have ha := hok (.attr r.op) (.head _)
    rw [hr] at hz
    obtain ⟨_, z5', z6', z7'⟩ := zeroP_eq hz
    have z5 : dn = 0 := z5'
    have z6 : ln = 0 := z6'
    have z7 : more = false := z7'
    dsimp only at hd hl
    obtain rfl := List.eq_nil_of_length_eq_zero (hd.trans z5)
    obtain rfl := List.eq_nil_of_length_eq_zero (hl.trans z6)
    have hen : (encP r [] [] [.attr r.op]).length = 24 := by
      show (p64 _ ++ p32 _ ++ p32 _ ++ p64 _ ++ []).length = 24
      simp only [List.length_append, p64_len, p32_len, List.length_nil]
    have := attrT_fwd (m := m) (rest := []) (ds := []) (es := []) (r := r) (o := r.op) (x := ⟨⟨r.client, r.seq, r.epoch, r.op, r.status, 0, 0, 0, 0, ⟨none, 0, 0⟩, ⟨none, 0, 0⟩, false⟩, [], [], 28, 0, false⟩) rfl hm ha
    refine ⟨?_, by omega⟩
    show (RpF.attr r.op).take m _ = _
    rw [this, hen]
    dsimp only
    rw [hr]
    subst_vars
    rfl
  · have ha := hok (.attr r.op) (.head _)
    have hc := of_decide_eq_true (show decide (r.dv.len ≤ 1024) = true from hok .cont (.tail _ (.head _)))
    rw [hr] at hz
    obtain ⟨_, _, z6', z7'⟩ := zeroP_eq hz
    have z6 : ln = 0 := z6'
    have z7 : more = false := z7'
    dsimp only at hl
    obtain rfl := List.eq_nil_of_length_eq_zero (hl.trans z6)
    have hds : ds.length ≤ 1024 := by rw [hr] at hc; exact hd ▸ hc
    have hf := fieldB_lens ds
    have he : encP r ds [] [.attr r.op, .cont] = (RpF.attr r.op).enc r ds [] ++ (fieldB ds ++ []) := rfl
    rw [he] at hm
    have h24 : ((RpF.attr r.op).enc r ds []).length = 24 := by
      show (p64 _ ++ p32 _ ++ p32 _ ++ p64 _).length = 24
      simp only [List.length_append, p64_len, p32_len]
    have h1 := attrT_fwd (m := m) (ds := ds) (es := []) (r := r) (o := r.op) (x := ⟨⟨r.client, r.seq, r.epoch, r.op, r.status, 0, 0, 0, 0, ⟨none, 0, 0⟩, ⟨none, 0, 0⟩, false⟩, [], [], 28, 0, false⟩) rfl hm ha
    have h2 := (drop_more hm).symm
    rw [h24] at h2
    have h3 := body_fwd h2 (most := 1024) (by omega) (by decide)
    refine ⟨?_, by rw [he, List.length_append, List.length_append, h24]; simp only [List.length_nil]; omega⟩
    show RpF.cont.take m ((RpF.attr r.op).take m _) = _
    rw [h1, he, List.length_append, h24, List.append_nil]
    simp only [RpF.take]
    rw [h3]
    dsimp only
    rw [hr]
    subst_vars
    rw [Nat.add_assoc]
  · have ha : (listB none es && decide (es.length ≤ 16)) = true := hok .list (.head _)
    rw [Bool.and_eq_true, decide_eq_true_iff] at ha
    rw [hr] at hz
    obtain ⟨z0, z5', _, _⟩ := zeroP_eq hz
    have z1 : aid = 0 := z0.1
    have z2 : akind = 0 := z0.2.1
    have z3 : asize = 0 := z0.2.2.1
    have z4 : achange = 0 := z0.2.2.2
    have z5 : dn = 0 := z5'
    dsimp only at hd
    obtain rfl := List.eq_nil_of_length_eq_zero (hd.trans z5)
    have hlo := listB_ok es none ha.1
    have hll := list_len es (listB_nm es none ha.1)
    have he : encP r [] es [.list, .more] = (p32 (es.length : Int) ++ es.flatMap entEnc) ++ (p32 (if r.more then 1 else 0) ++ []) := rfl
    rw [he, List.append_assoc] at hm
    have e1 := u32_fwd hm (most := mst32) ⟨by omega, by show (es.length : Int) ≤ 4294967295; omega⟩ (Int.le_refl _)
    have h2 := p32_cut hm
    have e2 := entsT_fwd h2 hlo es.length (Nat.le_refl _)
    rw [List.take_length] at e2
    have h3 := (drop_more h2).symm
    have e3 := flag_fwd r.more h3
    have hlen : (encP r [] es [.list, .more]).length = 8 + (es.flatMap entEnc).length := by
      rw [he]
      simp only [List.length_append, p32_len, List.length_nil]
      omega
    refine ⟨?_, by omega⟩
    show RpF.more.take m (RpF.list.take m _) = _
    rw [hlen]
    simp only [RpF.take, e1]
    rw [if_neg (by omega), Int.toNat_natCast, e2]
    dsimp only
    rw [e3, hr]
    subst_vars
    dsimp only
    congr 1
    omega
theorem hdP_take (r : RepV) (l : List Int) : (hdP r ++ l).take 4 = [65, 78, 82, 49] := by
  unfold hdP
  simp only [List.append_assoc]
  rfl
/-- THE WAY THERE AND BACK. -/
theorem decP_enc {r : RepV} {ds : List Int} {es : List EntV} (hd : ds.length = r.dv.len) (hl : es.length = r.lv.len) (h : r.chk es = 0) : decP (encRep r ds es) = (r.bare ds.length es.length, ds, es, 0) ∧ (encRep r ds es).length ≤ 1400 ∧ (encRep r ds es).take 4 = [65, 78, 82, 49] ∧ 12 ≤ (encRep r ds es).length := by
  obtain ⟨hh, hok, hz⟩ := chkP_ok h
  have ho := headP_op hh
  have he : encRep r ds es = sealed (hdP r ++ encP r ds es (rpFs' r)) := by unfold encRep; rw [if_pos h]
  have hm0 : ((hdP r).drop 4 ++ encP r ds es (rpFs' r)).drop 28 = encP r ds es (rpFs' r) := by
    have hml : ((hdP r).drop 4).length = 28 := by rw [List.length_drop, hdP_len]
    rw [List.drop_append_of_le_length (by omega), List.drop_of_length_le (by omega), List.nil_append]
  obtain ⟨ht, hc1⟩ := encRep_take hd hl h hm0
  have hl8 : (hdP r ++ encP r ds es (rpFs' r)).length ≤ 1392 := by rw [List.length_append, hdP_len]; omega
  have hl4 : 4 ≤ (hdP r ++ encP r ds es (rpFs' r)).length := by rw [List.length_append, hdP_len]; omega
  obtain ⟨o1, o2⟩ := open_sealed (mg := mgR) (by rw [hdP_take]; exact strOf_mgR) hl4 hl8
  have hm : midB (encRep r ds es) = (hdP r).drop 4 ++ encP r ds es (rpFs' r) := by
    rw [he, o2, List.drop_append_of_le_length (by rw [hdP_len]; decide)]
  rw [← hm] at ht
  have hx0 := hdP_fwd hm hh
  have hlm : (midB (encRep r ds es)).length = 28 + (encP r ds es (rpFs' r)).length := by rw [hm, List.length_append, List.length_drop, hdP_len]
  obtain ⟨m, hmm⟩ : ∃ m, midB (encRep r ds es) = m := ⟨_, rfl⟩
  rw [hmm] at ht hx0 hlm
  have hsl : (encRep r ds es).length = (hdP r ++ encP r ds es (rpFs' r)).length + 8 := by rw [he]; unfold sealed; rw [List.length_append, dg_len]
  refine ⟨?_, by omega, ?_, by rw [hsl, List.length_append, hdP_len]; omega⟩
  · unfold decP
    rw [hmm, he, o1, if_neg (by simp), hx0]
    dsimp only
    rw [if_neg (by simp), if_neg (by
      show ¬ (r.head ≠ 0)
      simp [hh])]
    rw [show rpFs' ⟨r.client, r.seq, r.epoch, r.op, r.status, 0, 0, 0, 0, ⟨none, 0, 0⟩, ⟨none, 0, 0⟩, false⟩ = rpFs' r from rfl, ht]
    unfold finP
    dsimp only
    have hcl : CloseR m (28 + (encP r ds es (rpFs' r)).length) 0 = 0 := if_neg (fun h => by omega)
    have hfin : (⟨{ r with dv := ⟨none, 0, 0⟩, lv := ⟨none, 0, 0⟩ }, ds, es, 28 + (encP r ds es (rpFs' r)).length, 0, false⟩ : TkP).fin = r.bare ds.length es.length := rfl
    rw [if_neg Bool.false_ne_true, hcl, if_neg (by simp), hfin, bareP_chk r es hd hl, h, if_neg (by simp)]
  · rw [he]
    unfold sealed
    rw [List.take_append_of_le_length hl4, hdP_take]
theorem attrT_bwd {m : List Int} (hb : Byts m) {x : TkP} {o : Int} (h : ((RpF.attr o).take m x).er = 0) : x.er = 0 ∧ m.drop x.at_ = (RpF.attr o).enc ((RpF.attr o).take m x).r x.ds x.es ++ m.drop ((RpF.attr o).take m x).at_ := by
  have h4 := u64_bwd hb h
  have h3 := u32_bwd hb h4.1
  have h2 := u32_bwd hb h3.1
  have h1 := u64_bwd hb h2.1
  refine ⟨h1.1, ?_⟩
  have e := h1.2
  rw [h2.2.1, h3.2.1, h4.2] at e
  refine e.trans ?_
  show _ = (p64 _ ++ p32 _ ++ p32 _ ++ p64 _) ++ _
  simp only [List.append_assoc]
  rfl
theorem takePs_bwd {m : List Int} (hb : Byts m) {x : TkP} (hx : x.ds = [] ∧ x.es = [] ∧ x.ov = false) {fs : List RpF} {o : Int} (hw : fs = [] ∨ fs = [.attr o] ∨ fs = [.attr o, .cont] ∨ fs = [.list, .more]) (h : (takePs m x fs).er = 0) (hov : (takePs m x fs).ov = false) :
    x.er = 0 ∧ m.drop x.at_ = encP (takePs m x fs).r (takePs m x fs).ds (takePs m x fs).es fs ++ m.drop (takePs m x fs).at_ := by
  rcases hw with rfl | rfl | rfl | rfl
  · exact ⟨h, rfl⟩
  · obtain ⟨h1, h2⟩ := attrT_bwd hb (x := x) (o := o) h
    refine ⟨h1, ?_⟩
    show m.drop x.at_ = ((RpF.attr o).enc _ _ _ ++ []) ++ _
    rw [List.append_nil]
    exact h2
  · obtain ⟨k1, k2, _⟩ := body_bwd hb (show (BodyR m ((RpF.attr o).take m x).at_ ((RpF.attr o).take m x).er 1024).2.2 = 0 from h)
    obtain ⟨h1, h2⟩ := attrT_bwd hb (x := x) (o := o) k1
    refine ⟨h1, ?_⟩
    show m.drop x.at_ = ((RpF.attr o).enc _ _ _ ++ (fieldB _ ++ [])) ++ _
    rw [List.append_nil, List.append_assoc, h2]
    congr 1
  · obtain ⟨x1, hx1⟩ : ∃ x1, RpF.list.take m x = x1 := ⟨_, rfl⟩
    have e1 : takePs m x [.list, .more] = RpF.more.take m x1 := by rw [← hx1]; rfl
    rw [e1] at h hov ⊢
    obtain ⟨k1, k2⟩ := flag_bwd hb (at_ := x1.at_) (er := x1.er) h
    have hov1 : x1.ov = false := hov
    unfold RpF.take at hx1
    dsimp only at hx1
    split at hx1
    · rw [← hx1] at hov1
      cases hov1
    · rename_i h16
      rw [hx.2.1] at hx1
      obtain ⟨y, hy⟩ : ∃ y, entsT m (U32R m x.at_ x.er mst32).1.toNat ([], (U32R m x.at_ x.er mst32).2.1, (U32R m x.at_ x.er mst32).2.2) = y := ⟨_, rfl⟩
      have hye : y.2.2 = 0 := by rw [hy] at hx1; rw [← hx1] at k1; exact k1
      obtain ⟨g1, l, g2, g3, g4⟩ := entsT_bwd hb (U32R m x.at_ x.er mst32).1.toNat (x := ([], (U32R m x.at_ x.er mst32).2.1, (U32R m x.at_ x.er mst32).2.2)) (by rw [hy]; exact hye)
      obtain ⟨f1, f2, f3⟩ := u32_bwd hb g1
      rw [hy] at g2 g4 hx1
      dsimp only at g2 g4
      rw [List.nil_append] at g2
      refine ⟨f1, ?_⟩
      have hes : (RpF.more.take m x1).es = l := by rw [← hx1]; exact g2
      show m.drop x.at_ = ((p32 ((RpF.more.take m x1).es.length : Int) ++ (RpF.more.take m x1).es.flatMap entEnc) ++ (p32 (if (FlagR m x1.at_ x1.er).1 then 1 else 0) ++ [])) ++ m.drop (FlagR m x1.at_ x1.er).2.1
      rw [hes, List.append_nil, List.append_assoc, ← k2, f2, g4, List.append_assoc]
      have hat : x1.at_ = y.2.1 := by rw [← hx1]
      have hln : ((l.length : Nat) : Int) = (U32R m x.at_ x.er mst32).1 := by omega
      rw [hat, hln]
theorem takeP_hd {m : List Int} {x : TkP} (f : RpF) : hdP (f.take m x).r = hdP x.r ∧ (f.take m x).r.op = x.r.op ∧ (f.take m x).r.status = x.r.status := by
  cases f with
  | list =>
    unfold RpF.take
    dsimp only
    split <;> exact ⟨rfl, rfl, rfl⟩
  | _ => exact ⟨rfl, rfl, rfl⟩
theorem takePs_hd {m : List Int} : ∀ (fs : List RpF) {x : TkP}, hdP (takePs m x fs).r = hdP x.r ∧ (takePs m x fs).r.op = x.r.op ∧ (takePs m x fs).r.status = x.r.status
  | [], _ => ⟨rfl, rfl, rfl⟩
  | f :: fs, x => ⟨(takePs_hd fs (x := f.take m x)).1.trans (takeP_hd f).1, (takePs_hd fs (x := f.take m x)).2.1.trans (takeP_hd f).2.1, (takePs_hd fs (x := f.take m x)).2.2.trans (takeP_hd f).2.2⟩
theorem encP_dv (r : RepV) (sl ll : SlV) (ds : List Int) (es : List EntV) (fs : List RpF) : encP { r with dv := sl, lv := ll } ds es fs = encP r ds es fs := by
  unfold encP
  refine congrArg (fun g => fs.flatMap g) (funext fun f => ?_)
  cases f <;> rfl
/-- WHAT IS READ HAS JUST THESE BYTES. -/
theorem enc_decP {bs : List Int} (hb : Byts bs) (h : (decP bs).2.2.2 = 0) : encRep (decP bs).1 (decP bs).2.1 (decP bs).2.2.1 = bs ∧ (decP bs).1.chk (decP bs).2.2.1 = 0 ∧ ((decP bs).2.1.length = (decP bs).1.dv.len ∧ (decP bs).2.2.1.length = (decP bs).1.lv.len) ∧ openE bs mgR = 0 := by
  by_cases q1 : openE bs mgR = 0
  case neg => rw [show decP bs = (.z, [], [], openE bs mgR) from if_pos q1] at h; exact absurd h q1
  obtain ⟨_, _, hmg, hbs⟩ := open_ok hb q1
  have hmb := midB_byts hb
  obtain ⟨m, hm⟩ : ∃ m, midB bs = m := ⟨_, rfl⟩
  have e1 : decP bs = if (hdP0 m).er ≠ 0 then (.z, [], [], (hdP0 m).er) else if (hdP0 m).r.head ≠ 0 then (.z, [], [], (hdP0 m).r.head) else finP m (takePs m (hdP0 m) (rpFs' (hdP0 m).r)) := by
    unfold decP
    rw [hm, if_neg (fun h => h q1)]
  rw [hm] at hmb hbs
  by_cases q2 : (hdP0 m).er = 0
  case neg => rw [e1, if_pos q2] at h; exact absurd h q2
  by_cases q3 : (hdP0 m).r.head = 0
  case neg => rw [e1, if_neg (fun h => h q2), if_pos q3] at h; exact absurd h q3
  rw [if_neg (fun h => h q2), if_neg (fun h => h q3)] at e1
  have hhd := hdP_bwd hmb q2
  have hx3 : (hdP0 m).ds = [] ∧ (hdP0 m).es = [] ∧ (hdP0 m).ov = false := ⟨rfl, rfl, rfl⟩
  obtain ⟨x0, hx0⟩ : ∃ x0, hdP0 m = x0 := ⟨_, rfl⟩
  rw [hx0] at e1 hhd q2 q3 hx3
  have hop := headP_op q3
  have hws := rpFs_ways x0.r hop
  obtain ⟨fs, hfs⟩ : ∃ fs, rpFs' x0.r = fs := ⟨_, rfl⟩
  obtain ⟨y, hy⟩ : ∃ y, takePs m x0 fs = y := ⟨_, rfl⟩
  rw [hfs, hy] at e1
  rw [hfs] at hws
  cases qo : y.ov with
  | true => rw [e1] at h; unfold finP at h; rw [if_pos qo] at h; cases h
  | false =>
  have qo' : ¬ y.ov = true := by rw [qo]; exact Bool.false_ne_true
  by_cases q4 : CloseR m y.at_ y.er = 0
  case neg => rw [e1] at h; unfold finP at h; rw [if_neg qo', if_pos q4] at h; exact absurd h q4
  by_cases q5 : y.fin.chk y.es = 0
  case neg => rw [e1] at h; unfold finP at h; rw [if_neg qo', if_neg (fun h => h q4), if_pos q5] at h; exact absurd h q5
  have e2 : decP bs = (y.fin, y.ds, y.es, 0) := by rw [e1]; unfold finP; rw [if_neg qo', if_neg (fun h => h q4), if_neg (fun h => h q5)]
  rw [e2]
  dsimp only
  have hye : y.er = 0 ∧ m.drop y.at_ = [] := by
    unfold CloseR at q4
    split at q4
    · cases q4
    · rename_i h6
      refine ⟨q4, List.drop_eq_nil_of_le ?_⟩
      have := fun h => h6 ⟨q4, h⟩
      omega
  have hb2 := takePs_bwd hmb hx3 hws (by rw [hy]; exact hye.1) (by rw [hy]; exact qo)
  rw [hy, hye.2, List.append_nil] at hb2
  have hh2 := takePs_hd (m := m) fs (x := x0)
  rw [hy] at hh2
  refine ⟨?_, q5, ⟨rfl, rfl⟩, q1⟩
  unfold encRep
  rw [if_pos q5]
  have e3 : hdP y.fin = hdP x0.r := hh2.1
  have e4 : rpFs' y.fin = fs := by
    rw [← hfs]
    unfold rpFs'
    rw [show y.fin.op = x0.r.op from hh2.2.1, show y.fin.status = x0.r.status from hh2.2.2]
  have e5 : encP y.fin y.ds y.es fs = encP y.r y.ds y.es fs := encP_dv y.r _ _ _ _ _
  rw [e3, e4, e5, ← hb2.2]
  have e6 : hdP x0.r = bs.take 4 ++ (hdP x0.r).drop 4 := by
    rw [hmg]
    unfold hdP
    simp only [List.append_assoc]
    rfl
  conv => rhs; rw [hbs, hhd]
  rw [e6, List.append_assoc, ← e6]
end Go.Proofs.YtfolhmlldoepfaaGreatDoor
namespace Go.Proofs.YtfolhmlldoepfaaGreatDoor
open Go Go.Proofs Go.RowKit
set_option maxRecDepth 4000
theorem xor_u64 {a b : Nat} (ha : a < 18446744073709551616) (hb : b < 18446744073709551616) : bits .xor .u64 (a : Int) (b : Int) = ((a ^^^ b : Nat) : Int) := by
  unfold bits
  dsimp only
  have hlt : a ^^^ b < 2 ^ 64 := Nat.xor_lt_two_pow (by omega) (by omega)
  have e1 : (BitVec.ofInt IntKind.u64.bits (a : Int) ^^^ BitVec.ofInt IntKind.u64.bits (b : Int)).toNat = a ^^^ b := by
    have hb8 : IntKind.u64.bits = 64 := rfl
    rw [hb8, BitVec.toNat_xor]
    simp only [BitVec.toNat_ofInt]
    have m1 : ((a : Int) % ((2 ^ 64 : Nat) : Int)).toNat = a := by omega
    have m2 : ((b : Int) % ((2 ^ 64 : Nat) : Int)).toNat = b := by omega
    rw [m1, m2]
  rw [e1, u64_in (by omega)]
theorem mul_cancel {a b p q M : Int} (hM : 1 < M) (hp : (p * q) % M = 1) (ha : 0 ≤ a ∧ a < M) (hb : 0 ≤ b ∧ b < M) (h : (a * p) % M = (b * p) % M) : a = b := by
  have key : ∀ c : Int, 0 ≤ c ∧ c < M → ((c * p) % M * q) % M = c := fun c hc => by
    rw [Int.mul_emod, Int.emod_emod_of_dvd _ (Int.dvd_refl M), ← Int.mul_emod, Int.mul_assoc, Int.mul_emod, hp, Int.mul_one, Int.emod_emod_of_dvd _ (Int.dvd_refl M)]
    exact Int.emod_eq_of_lt hc.1 hc.2
  rw [← key a ha, ← key b hb, h]
theorem mul_prime {a b : Int} (ha : 0 ≤ a ∧ a < 18446744073709551616) (hb : 0 ≤ b ∧ b < 18446744073709551616) (h : (a * 1099511628211) % 18446744073709551616 = (b * 1099511628211) % 18446744073709551616) : a = b :=
  mul_cancel (q := 14886173955864302971) (by decide) (by decide) ha hb h
theorem stepS_eq {h x : Int} (hh : 0 ≤ h ∧ h ≤ 18446744073709551615) (hx : 0 ≤ x ∧ x ≤ 255) : stepS h x = (((h.toNat ^^^ x.toNat : Nat) : Int) * 1099511628211) % 18446744073709551616 ∧ h.toNat ^^^ x.toNat < 18446744073709551616 := by
  refine ⟨?_, Nat.xor_lt_two_pow (n := 64) (by omega) (by omega)⟩
  unfold stepS
  rw [wrapU_eq, wrapU_eq, Int.emod_eq_of_lt (a := x) (by omega) (by omega)]
  have := xor_u64 (a := h.toNat) (b := x.toNat) (by omega) (by omega)
  rw [show ((h.toNat : Nat) : Int) = h by omega, show ((x.toNat : Nat) : Int) = x by omega] at this
  rw [this]
theorem stepS_inj {h g x y : Int} (hh : 0 ≤ h ∧ h ≤ 18446744073709551615) (hg : 0 ≤ g ∧ g ≤ 18446744073709551615) (hx : 0 ≤ x ∧ x ≤ 255) (hy : 0 ≤ y ∧ y ≤ 255) (he : stepS h x = stepS g y) : h.toNat ^^^ x.toNat = g.toNat ^^^ y.toNat := by
  obtain ⟨e1, l1⟩ := stepS_eq hh hx
  obtain ⟨e2, l2⟩ := stepS_eq hg hy
  rw [e1, e2] at he
  have q1 : (0 : Int) ≤ ((h.toNat ^^^ x.toNat : Nat) : Int) ∧ ((h.toNat ^^^ x.toNat : Nat) : Int) < 18446744073709551616 := by clear he e1 e2 l2; omega
  have q2 : (0 : Int) ≤ ((g.toNat ^^^ y.toNat : Nat) : Int) ∧ ((g.toNat ^^^ y.toNat : Nat) : Int) < 18446744073709551616 := by clear he e1 e2 l1; omega
  have := mul_prime q1 q2 he
  exact Int.ofNat_inj.1 this
theorem stepS_in (h x : Int) : 0 ≤ stepS h x ∧ stepS h x ≤ 18446744073709551615 := by
  unfold stepS
  rw [wrapU_eq]
  omega
theorem sumR_inj : ∀ (bs : List Int) (h g : Int), Byts bs → 0 ≤ h ∧ h ≤ 18446744073709551615 → 0 ≤ g ∧ g ≤ 18446744073709551615 → sumR h bs = sumR g bs → h = g
  | [], _, _, _, _, _, e => e
  | x :: bs, h, g, hb, hh, hg, e => by
    have hx := hb x (.head _)
    have h1 := sumR_inj bs _ _ (fun y hy => hb y (.tail _ hy)) (stepS_in h x) (stepS_in g x) e
    have h2 := stepS_inj hh hg hx hx h1
    have h3 : h.toNat = g.toNat := by
      have := congrArg (· ^^^ x.toNat) h2
      simpa [Nat.xor_assoc] using this
    omega
theorem sumR_app (h : Int) (a b : List Int) : sumR h (a ++ b) = sumR (sumR h a) b := by unfold sumR; rw [List.foldl_append]
theorem sumR_set {bs : List Int} {i : Nat} {x : Int} (hb : Byts bs) (hi : i < bs.length) (hx : 0 ≤ x ∧ x ≤ 255) (he : sumR off0 (bs.set i x) = sumR off0 bs) : bs[i] = x := by
  have e1 : bs = bs.take i ++ bs[i] :: bs.drop (i + 1) := by rw [← List.drop_eq_getElem_cons hi, List.take_append_drop]
  have e2 : bs.set i x = bs.take i ++ x :: bs.drop (i + 1) := by
    rw [List.set_eq_take_append_cons_drop, if_pos hi]
  have hy := hb bs[i] (List.getElem_mem hi)
  obtain ⟨y, hyy⟩ : ∃ y, bs[i] = y := ⟨_, rfl⟩
  rw [hyy] at e1 hy ⊢
  rw [e2] at he
  conv at he => rhs; rw [e1]
  rw [sumR_app, sumR_app] at he
  have hh := sum0_in (bs.take i)
  obtain ⟨h, hhh⟩ : ∃ h, sumR off0 (bs.take i) = h := ⟨_, rfl⟩
  rw [hhh] at he hh
  have h1 := sumR_inj (bs.drop (i + 1)) _ _ (fun y hy => hb y (List.mem_of_mem_drop hy)) (stepS_in h x) (stepS_in h y) he
  have h2 := stepS_inj hh hh hx hy h1
  have h3 : x.toNat = y.toNat := by
    have := congrArg (h.toNat ^^^ ·) h2
    simpa [← Nat.xor_assoc] using this
  omega
theorem set_byts {bs : List Int} {i : Nat} {x : Int} (hb : Byts bs) (hx : 0 ≤ x ∧ x ≤ 255) : Byts (bs.set i x) := fun y hy => by
  rcases List.mem_or_eq_of_mem_set hy with h | h
  · exact hb y h
  · rw [h]; exact hx
theorem sealed_byts {B : List Int} (h : Byts B) : Byts (sealed B) := fun x hx => by
  unfold sealed at hx
  rcases List.mem_append.1 hx with hx | hx
  · exact h x hx
  · exact dg_byts _ _ x hx
/-- One byte of a datagram is another one: it is refused. -/
theorem one_byte {B : List Int} {i : Nat} {x : Int} (mg : ByteArray) (hB : Byts B) (hi : i < (sealed B).length) (hx : 0 ≤ x ∧ x ≤ 255) (hne : (sealed B)[i] ≠ x) : openE ((sealed B).set i x) mg ≠ 0 := by
  intro h
  have hsl : (sealed B).length = B.length + 8 := by unfold sealed; rw [List.length_append, dg_len]
  have hb := sealed_byts hB
  have hb2 : Byts ((sealed B).set i x) := set_byts hb hx
  obtain ⟨_, h12, _, hs⟩ := open_ok hb2 h
  obtain ⟨C, hC⟩ : ∃ C, ((sealed B).set i x).take 4 ++ midB ((sealed B).set i x) = C := ⟨_, rfl⟩
  rw [hC] at hs
  have hcl : C.length = B.length := by
    have := congrArg List.length hs
    rw [List.length_set, hsl] at this
    unfold sealed at this
    rw [List.length_append, dg_len] at this
    omega
  unfold sealed at hs hi hne hsl
  by_cases hlt : i < B.length
  · rw [List.set_append_left _ _ hlt] at hs
    obtain ⟨h1, h2⟩ := List.append_inj hs (by rw [List.length_set, hcl])
    have h3 := congrArg numR h2
    rw [numR_dg _ (by decide), numR_dg _ (by decide), show (256 : Int) ^ 8 = 18446744073709551616 by decide, Int.emod_eq_of_lt (sum0_in B).1 (by have := (sum0_in B).2; omega), Int.emod_eq_of_lt (sum0_in C).1 (by have := (sum0_in C).2; omega), ← h1] at h3
    refine hne ?_
    rw [List.getElem_append_left hlt]
    exact sumR_set hB hlt hx h3.symm
  · rw [List.set_append_right _ _ (by omega)] at hs
    obtain ⟨h1, h2⟩ := List.append_inj hs hcl.symm
    rw [← h1] at h2
    refine hne ?_
    rw [List.getElem_append_right (by omega)]
    have hj : i - B.length < (dg (sumR off0 B) 8).length := by rw [dg_len]; omega
    have := List.getElem_set_self (l := dg (sumR off0 B) 8) (i := i - B.length) (a := x) (by rw [List.length_set]; exact hj)
    rw [← this]
    congr 1
    exact h2.symm
end Go.Proofs.YtfolhmlldoepfaaGreatDoor
