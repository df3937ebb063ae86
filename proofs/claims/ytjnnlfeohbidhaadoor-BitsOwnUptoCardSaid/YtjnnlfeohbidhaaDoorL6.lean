import Derived.Test.YtjnnlfeohbidhaaDoorL5
import Derived.Test.YtjnnlfeohbidhaaDoorEngK
namespace Go.Proofs.YtjnnlfeohbidhaaDoor
open Go Go.Proofs Go.RowKit
set_option maxRecDepth 4000

/-! ### One field is read back -/
def backR (bs : List Int) (at_ : Nat) (er : Int) (t : ItM) (ds : List Int) : Bool × Nat × Int :=
  if t.k = 1 then (decide ((U32R bs at_ er t.x).1 = t.x), (U32R bs at_ er t.x).2)
  else if t.k = 2 then (decide ((U64R bs at_ er t.x).1 = t.x), (U64R bs at_ er t.x).2)
  else if t.k = 3 then (decide ((SumR bs at_ er).1 = t.s), (SumR bs at_ er).2)
  else if t.k = 4 then ((strOf (BodyR bs at_ er (ds.length : Int)).1).toList == (strOf ds).toList, (BodyR bs at_ er (ds.length : Int)).2)
  else (decide ((BodyR bs at_ er (ds.length : Int)).1 = ds), (BodyR bs at_ er (ds.length : Int)).2)
set_option maxHeartbeats 4000000 in
theorem back_spec {w1 : World} {E : Addr} {g : Nat} (hI : Glo (gl E) g w1) (p : Nat) (bs : List Int) (at_ : Nat) (er : Int) (t : ItM) (ds : List Int) (hr : Rd byteE w1 t.sl.v ds) (hb : Byts bs) (hl : bs.length ≤ 140737488351232) (hat : at_ ≤ bs.length) :
    SpecB Tryd.prog w1 27 [.pointer (some ⟨p, 0, none⟩), t.v] [RdrX p bs at_ er] (fun u M => u = .bool (backR bs at_ er t ds).1 ∧ M = [RdrX p bs (backR bs at_ er t ds).2.1 (backR bs at_ er t ds).2.2]) := by
  refine specB_of Tryd.func27 rfl rfl (Nat.le_of_ble_eq_true rfl) (fun w F hB hF => ?_)
  have hsl : t.sl.len = ds.length := by
    obtain ⟨a, c, e, _⟩ := hr
    exact (Value.slice.inj e).2.1
  have hrd : ∀ x L, St w F L x → Rd byteE x t.sl.v ds := fun x L h => hr.but (h.butB hB hF)
  by_cases k1 : t.k = 1
  · have e1 : backR bs at_ er t ds = (decide ((U32R bs at_ er t.x).1 = t.x), (U32R bs at_ er t.x).2) := if_pos k1
    rw [e1]
    (refine hc_seq ?_; refine hc_lex ?_; refine hx_plain rfl ?_; (refine h_box rfl rfl rfl rfl rfl rfl (fun _ => ?_)); refine hx_plain rfl ?_; refine h_assign rfl rfl rfl rfl ?_; refine hx_nil ?_; refine hq_then ?_; refine hc_seq ?_; refine hc_seq ?_; refine hc_lex ?_; refine hx_plain rfl ?_; refine h_fieldAddr0 rfl rfl FC.out rfl rfl ?_; refine hx_plain rfl ?_; refine h_load rfl rfl UC.out rfl .head rfl rfl rfl ?_; refine hx_nil ?_; refine hq_then ?_; refine hc_block ?_; refine hc_seq ?_; refine hc_lex ?_; refine hx_plain rfl ?_; refine h_cmp rfl rfl rfl rfl rfl rfl ?_; refine hx_plain rfl ?_; refine h_assign rfl rfl rfl rfl ?_; refine hx_nil ?_; refine hq_then ?_; refine hc_condDT rfl (by omega) ?_; refine hc_seq ?_)
    rename_i b
    refine hc_drawE (D := fun x => St w F [Blk b (.cells #[.int .i64 t.k, .int .i64 t.x, .int .u64 t.s, t.sl.v] 28 (0, 0))] x) (fun i => i == 3) [0, 1, 2, 4, 5] [3, 6, 7] (by kernel_rfl) (by kernel_rfl) rfl (fun x h => h.sub (.cons .head .nil)) rfl ?_
    (refine hx_plain rfl ?_; refine h_move rfl rfl rfl rfl ?_; refine hx_plain rfl ?_; refine h_fieldAddr0 rfl rfl FC.out rfl rfl ?_; refine hx_plain rfl ?_; refine h_load rfl rfl UC.out rfl .head rfl rfl rfl ?_; refine hx_plain rfl ?_; refine h_fieldAddr0 rfl rfl FC.out rfl rfl ?_; refine hx_plain rfl ?_; refine h_load rfl rfl UC.out rfl .head rfl rfl rfl ?_; refine hx_nil ?_)
    refine hd_callB hB hF rfl rfl rfl rfl rfl rfl rfl rfl EC.out (.cons (.tail .head) .nil) ((u32_all p bs at_ er t.x E g (by omega) hat).toB hI) (fun v M hM x h => by obtain ⟨rfl, rfl⟩ := hM; exact h.sub (.cons (.tail .head) .nil)) ?_
    rintro v M ⟨rfl, rfl⟩
    refine hd_end _ rfl ?_
    (refine hx_plain rfl ?_; refine h_cmp rfl rfl rfl rfl rfl rfl ?_; refine hx_plain rfl ?_; refine h_assign rfl rfl rfl rfl ?_; refine hx_nil ?_)
    refine hd_nil ?_
    (refine hq_then ?_; refine hc_ret ?_; refine hq_ret_block ?_; refine hq_ret_then ?_)
    exact hq_ret1 (.inr rfl) rfl rfl ⟨rfl, rfl⟩ (fun _ h => h.sub (.cons .head .nil))
  by_cases k2 : t.k = 2
  · have e1 : backR bs at_ er t ds = (decide ((U64R bs at_ er t.x).1 = t.x), (U64R bs at_ er t.x).2) := by unfold backR; rw [if_neg k1, if_pos k2]
    rw [e1]
    (refine hc_seq ?_; refine hc_lex ?_; refine hx_plain rfl ?_; (refine h_box rfl rfl rfl rfl rfl rfl (fun _ => ?_)); refine hx_plain rfl ?_; refine h_assign rfl rfl rfl rfl ?_; refine hx_nil ?_; refine hq_then ?_; refine hc_seq ?_; refine hc_seq ?_; refine hc_lex ?_; refine hx_plain rfl ?_; refine h_fieldAddr0 rfl rfl FC.out rfl rfl ?_; refine hx_plain rfl ?_; refine h_load rfl rfl UC.out rfl .head rfl rfl rfl ?_; refine hx_nil ?_; refine hq_then ?_; refine hc_block ?_; refine hc_seq ?_; refine hc_lex ?_; refine hx_plain rfl ?_; refine h_cmp rfl rfl rfl rfl rfl rfl ?_; refine hx_plain rfl ?_; refine h_assign rfl rfl rfl rfl ?_; refine hx_nil ?_; refine hq_then ?_; refine hc_condDF rfl (by omega) ?_; refine hc_seq ?_; refine hc_lex ?_; refine hx_plain rfl ?_; refine h_cmp rfl rfl rfl rfl rfl rfl ?_; refine hx_plain rfl ?_; refine h_assign rfl rfl rfl rfl ?_; refine hx_nil ?_; refine hq_then ?_; refine hc_condDT rfl (by omega) ?_; refine hc_seq ?_)
    rename_i b
    refine hc_drawE (D := fun x => St w F [Blk b (.cells #[.int .i64 t.k, .int .i64 t.x, .int .u64 t.s, t.sl.v] 28 (0, 0))] x) (fun i => i == 3) [0, 1, 2, 4, 5] [3, 6, 7] (by kernel_rfl) (by kernel_rfl) rfl (fun x h => h.sub (.cons .head .nil)) rfl ?_
    (refine hx_plain rfl ?_; refine h_move rfl rfl rfl rfl ?_; refine hx_plain rfl ?_; refine h_fieldAddr0 rfl rfl FC.out rfl rfl ?_; refine hx_plain rfl ?_; refine h_load rfl rfl UC.out rfl .head rfl rfl rfl ?_; refine hx_plain rfl ?_; refine h_fieldAddr0 rfl rfl FC.out rfl rfl ?_; refine hx_plain rfl ?_; refine h_load rfl rfl UC.out rfl .head rfl rfl rfl ?_; refine hx_nil ?_)
    refine hd_callB hB hF rfl rfl rfl rfl rfl rfl rfl rfl EC.out (.cons (.tail .head) .nil) ((u64_all p bs at_ er t.x E g (by omega) hat).toB hI) (fun v M hM x h => by obtain ⟨rfl, rfl⟩ := hM; exact h.sub (.cons (.tail .head) .nil)) ?_
    rintro v M ⟨rfl, rfl⟩
    refine hd_end _ rfl ?_
    (refine hx_plain rfl ?_; refine h_cmp rfl rfl rfl rfl rfl rfl ?_; refine hx_plain rfl ?_; refine h_assign rfl rfl rfl rfl ?_; refine hx_nil ?_)
    refine hd_nil ?_
    (refine hq_then ?_; refine hc_ret ?_; refine hq_ret_block ?_; refine hq_ret_then ?_)
    exact hq_ret1 (.inr rfl) rfl rfl ⟨rfl, rfl⟩ (fun _ h => h.sub (.cons .head .nil))
  by_cases k3 : t.k = 3
  · have e1 : backR bs at_ er t ds = (decide ((SumR bs at_ er).1 = t.s), (SumR bs at_ er).2) := by unfold backR; rw [if_neg k1, if_neg k2, if_pos k3]
    rw [e1]
    (refine hc_seq ?_; refine hc_lex ?_; refine hx_plain rfl ?_; (refine h_box rfl rfl rfl rfl rfl rfl (fun _ => ?_)); refine hx_plain rfl ?_; refine h_assign rfl rfl rfl rfl ?_; refine hx_nil ?_; refine hq_then ?_; refine hc_seq ?_; refine hc_seq ?_; refine hc_lex ?_; refine hx_plain rfl ?_; refine h_fieldAddr0 rfl rfl FC.out rfl rfl ?_; refine hx_plain rfl ?_; refine h_load rfl rfl UC.out rfl .head rfl rfl rfl ?_; refine hx_nil ?_; refine hq_then ?_; refine hc_block ?_; refine hc_seq ?_; refine hc_lex ?_; refine hx_plain rfl ?_; refine h_cmp rfl rfl rfl rfl rfl rfl ?_; refine hx_plain rfl ?_; refine h_assign rfl rfl rfl rfl ?_; refine hx_nil ?_; refine hq_then ?_; refine hc_condDF rfl (by omega) ?_; refine hc_seq ?_; refine hc_lex ?_; refine hx_plain rfl ?_; refine h_cmp rfl rfl rfl rfl rfl rfl ?_; refine hx_plain rfl ?_; refine h_assign rfl rfl rfl rfl ?_; refine hx_nil ?_; refine hq_then ?_; refine hc_condDF rfl (by omega) ?_; refine hc_seq ?_; refine hc_lex ?_; refine hx_plain rfl ?_; refine h_cmp rfl rfl rfl rfl rfl rfl ?_; refine hx_plain rfl ?_; refine h_assign rfl rfl rfl rfl ?_; refine hx_nil ?_; refine hq_then ?_; refine hc_condDT rfl (by omega) ?_; refine hc_seq ?_)
    rename_i b
    refine hc_drawE (D := fun x => St w F [Blk b (.cells #[.int .i64 t.k, .int .i64 t.x, .int .u64 t.s, t.sl.v] 28 (0, 0))] x) (fun i => i == 1) [0, 2, 3] [1, 4, 5] (by kernel_rfl) (by kernel_rfl) rfl (fun x h => h.sub (.cons .head .nil)) rfl ?_
    (refine hx_plain rfl ?_; refine h_move rfl rfl rfl rfl ?_; refine hx_plain rfl ?_; refine h_fieldAddr0 rfl rfl FC.out rfl rfl ?_; refine hx_plain rfl ?_; refine h_load rfl rfl UC.out rfl .head rfl rfl rfl ?_; refine hx_nil ?_)
    refine hd_callB hB hF rfl rfl rfl rfl rfl rfl rfl rfl EC.out (.cons (.tail .head) .nil) ((sum_all p bs at_ er E g (by omega) hat).toB hI) (fun v M hM x h => by obtain ⟨rfl, rfl⟩ := hM; exact h.sub (.cons (.tail .head) .nil)) ?_
    rintro v M ⟨rfl, rfl⟩
    refine hd_end _ rfl ?_
    (refine hx_plain rfl ?_; refine h_cmp rfl rfl rfl rfl rfl rfl ?_; refine hx_plain rfl ?_; refine h_assign rfl rfl rfl rfl ?_; refine hx_nil ?_)
    refine hd_nil ?_
    (refine hq_then ?_; refine hc_ret ?_; refine hq_ret_block ?_; refine hq_ret_then ?_)
    exact hq_ret1 (.inr rfl) rfl rfl ⟨rfl, rfl⟩ (fun _ h => h.sub (.cons .head .nil))
  by_cases k4 : t.k = 4
  · have e1 : backR bs at_ er t ds = ((strOf (BodyR bs at_ er (ds.length : Int)).1).toList == (strOf ds).toList, (BodyR bs at_ er (ds.length : Int)).2) := by unfold backR; rw [if_neg k1, if_neg k2, if_neg k3, if_pos k4]
    rw [e1, ← hsl]
    (refine hc_seq ?_; refine hc_lex ?_; refine hx_plain rfl ?_; (refine h_box rfl rfl rfl rfl rfl rfl (fun _ => ?_)); refine hx_plain rfl ?_; refine h_assign rfl rfl rfl rfl ?_; refine hx_nil ?_; refine hq_then ?_; refine hc_seq ?_; refine hc_seq ?_; refine hc_lex ?_; refine hx_plain rfl ?_; refine h_fieldAddr0 rfl rfl FC.out rfl rfl ?_; refine hx_plain rfl ?_; refine h_load rfl rfl UC.out rfl .head rfl rfl rfl ?_; refine hx_nil ?_; refine hq_then ?_; refine hc_block ?_; refine hc_seq ?_; refine hc_lex ?_; refine hx_plain rfl ?_; refine h_cmp rfl rfl rfl rfl rfl rfl ?_; refine hx_plain rfl ?_; refine h_assign rfl rfl rfl rfl ?_; refine hx_nil ?_; refine hq_then ?_; refine hc_condDF rfl (by omega) ?_; refine hc_seq ?_; refine hc_lex ?_; refine hx_plain rfl ?_; refine h_cmp rfl rfl rfl rfl rfl rfl ?_; refine hx_plain rfl ?_; refine h_assign rfl rfl rfl rfl ?_; refine hx_nil ?_; refine hq_then ?_; refine hc_condDF rfl (by omega) ?_; refine hc_seq ?_; refine hc_lex ?_; refine hx_plain rfl ?_; refine h_cmp rfl rfl rfl rfl rfl rfl ?_; refine hx_plain rfl ?_; refine h_assign rfl rfl rfl rfl ?_; refine hx_nil ?_; refine hq_then ?_; refine hc_condDF rfl (by omega) ?_; refine hc_seq ?_; refine hc_lex ?_; refine hx_plain rfl ?_; refine h_cmp rfl rfl rfl rfl rfl rfl ?_; refine hx_plain rfl ?_; refine h_assign rfl rfl rfl rfl ?_; refine hx_nil ?_; refine hq_then ?_; refine hc_condDT rfl (by omega) ?_; refine hc_seq ?_)
    rename_i b
    refine hc_drawE (D := fun x => St w F [Blk b (.cells #[.int .i64 t.k, .int .i64 t.x, .int .u64 t.s, t.sl.v] 28 (0, 0))] x) (fun i => i == 3 || i == 4) [0, 1, 2, 5, 6, 7] [3, 4, 8, 9] (by kernel_rfl) (by kernel_rfl) rfl (fun x h => h.sub (.cons .head .nil)) rfl ?_
    (refine hx_plain rfl ?_; refine h_move rfl rfl rfl rfl ?_; refine hx_plain rfl ?_; refine h_fieldAddr0 rfl rfl FC.out rfl rfl ?_; refine hx_plain rfl ?_; refine h_load rfl rfl UC.out rfl .head rfl rfl rfl ?_; refine hx_plain rfl ?_; refine h_fieldAddr0 rfl rfl FC.out rfl rfl ?_; refine hx_plain rfl ?_; refine h_load rfl rfl UC.out rfl .head rfl rfl rfl ?_; refine hx_plain rfl ?_)
    refine h_toString rfl rfl UC.out UC.out UC.out (fun x h => hrd x _ h) rfl rfl ?_
    (refine hx_nil ?_)
    refine hd_len rfl rfl rfl rfl UC.out rfl rfl rfl (fun x h => h.sub (.cons .head .nil)) ?_
    refine hd_callB hB hF rfl rfl rfl rfl rfl rfl rfl rfl EC.out (.cons (.tail .head) .nil) ((text_all p bs at_ er (t.sl.len : Int) E g (by omega) hat hb).toB hI) (fun v M hM x h => by obtain ⟨rfl, rfl⟩ := hM; exact h.sub (.cons (.tail .head) .nil)) ?_
    rintro v M ⟨rfl, rfl⟩
    refine hd_end _ rfl ?_
    refine hx_plain rfl ?_
    refine h_cmpS rfl rfl rfl rfl rfl rfl ?_
    (refine hx_plain rfl ?_; refine h_assign rfl rfl rfl rfl ?_; refine hx_nil ?_)
    refine hd_nil ?_
    (refine hq_then ?_; refine hc_ret ?_; refine hq_ret_block ?_; refine hq_ret_then ?_)
    exact hq_ret1 (.inr rfl) rfl rfl ⟨rfl, rfl⟩ (fun _ h => h.sub (.cons .head .nil))
  have e1 : backR bs at_ er t ds = (decide ((BodyR bs at_ er (ds.length : Int)).1 = ds), (BodyR bs at_ er (ds.length : Int)).2) := by unfold backR; rw [if_neg k1, if_neg k2, if_neg k3, if_neg k4]
  rw [e1, ← hsl]
  (refine hc_seq ?_; refine hc_lex ?_; refine hx_plain rfl ?_; (refine h_box rfl rfl rfl rfl rfl rfl (fun _ => ?_)); refine hx_plain rfl ?_; refine h_assign rfl rfl rfl rfl ?_; refine hx_nil ?_; refine hq_then ?_; refine hc_seq ?_; refine hc_seq ?_; refine hc_lex ?_; refine hx_plain rfl ?_; refine h_fieldAddr0 rfl rfl FC.out rfl rfl ?_; refine hx_plain rfl ?_; refine h_load rfl rfl UC.out rfl .head rfl rfl rfl ?_; refine hx_nil ?_; refine hq_then ?_; refine hc_block ?_; refine hc_seq ?_; refine hc_lex ?_; refine hx_plain rfl ?_; refine h_cmp rfl rfl rfl rfl rfl rfl ?_; refine hx_plain rfl ?_; refine h_assign rfl rfl rfl rfl ?_; refine hx_nil ?_; refine hq_then ?_; refine hc_condDF rfl (by omega) ?_; refine hc_seq ?_; refine hc_lex ?_; refine hx_plain rfl ?_; refine h_cmp rfl rfl rfl rfl rfl rfl ?_; refine hx_plain rfl ?_; refine h_assign rfl rfl rfl rfl ?_; refine hx_nil ?_; refine hq_then ?_; refine hc_condDF rfl (by omega) ?_; refine hc_seq ?_; refine hc_lex ?_; refine hx_plain rfl ?_; refine h_cmp rfl rfl rfl rfl rfl rfl ?_; refine hx_plain rfl ?_; refine h_assign rfl rfl rfl rfl ?_; refine hx_nil ?_; refine hq_then ?_; refine hc_condDF rfl (by omega) ?_; refine hc_seq ?_; refine hc_lex ?_; refine hx_plain rfl ?_; refine h_cmp rfl rfl rfl rfl rfl rfl ?_; refine hx_plain rfl ?_; refine h_assign rfl rfl rfl rfl ?_; refine hx_nil ?_; refine hq_then ?_; refine hc_condDF rfl (by omega) ?_; refine hc_skip ?_; refine hq_norm_block ?_; refine hq_then ?_; refine hc_seq ?_)
  rename_i b
  refine hc_drawE (D := fun x => St w F [Blk b (.cells #[.int .i64 t.k, .int .i64 t.x, .int .u64 t.s, t.sl.v] 28 (0, 0))] x) (fun i => i == 3 || i == 4 || i == 7) [0, 1, 2, 5, 6] [3, 4, 7, 8] (by kernel_rfl) (by kernel_rfl) rfl (fun x h => h.sub (.cons .head .nil)) rfl ?_
  (refine hx_plain rfl ?_; refine h_move rfl rfl rfl rfl ?_; refine hx_plain rfl ?_; refine h_fieldAddr0 rfl rfl FC.out rfl rfl ?_; refine hx_plain rfl ?_; refine h_load rfl rfl UC.out rfl .head rfl rfl rfl ?_; refine hx_plain rfl ?_; refine h_fieldAddr0 rfl rfl FC.out rfl rfl ?_; refine hx_plain rfl ?_; refine h_load rfl rfl UC.out rfl .head rfl rfl rfl ?_; refine hx_nil ?_)
  refine hd_len rfl rfl rfl rfl UC.out rfl rfl rfl (fun x h => h.sub (.cons .head .nil)) ?_
  refine hd_callB hB hF rfl rfl rfl rfl rfl rfl rfl rfl EC.out (.cons (.tail .head) .nil) ((bytes_all p bs at_ er (t.sl.len : Int) E g (by omega) hat hb).toB hI) (fun v M hM x h => by subst hM; exact h.sub (.cons (.tail (.tail .head)) .nil)) ?_
  rintro v M rfl
  refine hd_callRd rfl rfl rfl rfl rfl rfl rfl rfl EC.out (fun w' h => sameBytes (h.rdRowV .head) (hrd w' _ h)) (fun x h => h.sub (.cons (.tail (.tail .head)) .nil)) ?_
  refine hd_end _ rfl ?_
  (refine hx_plain rfl ?_; refine h_assign rfl rfl rfl rfl ?_; refine hx_nil ?_)
  refine hd_nil ?_
  (refine hq_then ?_; refine hc_ret ?_)
  exact hq_ret1 (.inr rfl) rfl rfl ⟨rfl, rfl⟩ (fun _ h => h.sub (.cons (.tail .head) .nil))
end Go.Proofs.YtjnnlfeohbidhaaDoor
