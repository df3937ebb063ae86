import Derived.Test.YtjnnlfeohbidhaaDoorBt9
import Derived.Test.YtjnnlfeohbidhaaDoorBp2
namespace Go.Proofs.YtjnnlfeohbidhaaDoor
open Go Go.Proofs Go.RowKit
set_option maxRecDepth 4000

theorem num_spec (e : Int) : Spec0 Tryd.prog 29 [.int .i64 e] (.int .i64 e) := by
  refine spec_of Tryd.func29 rfl rfl (Nat.le_of_ble_eq_true rfl) (fun w F => ?_)
  (refine hc_seq ?_; refine hc_lex ?_; refine hx_plain rfl ?_; refine h_assign rfl rfl rfl rfl ?_; refine hx_nil ?_; refine hq_then ?_; refine hc_seq ?_; refine hc_lex ?_; refine hx_plain rfl ?_; refine h_move rfl rfl rfl rfl ?_; refine hx_plain rfl ?_; refine h_assign rfl rfl rfl rfl ?_; refine hx_nil ?_; refine hq_then ?_; refine hc_ret ?_)
  exact hq_ret1 (.inr rfl) rfl rfl ⟨rfl, rfl⟩ (fun _ h => h.emp)
def headB : List Int := [7, 0, 0, 1, 2, 0, 0, 0, 3, 97, 98, 99, 0]
theorem head_bytes : ([7] ++ dg (IntKind.u64.wrap 258) 4) ++ fieldB (strBytes ⟨#[97, 98, 99]⟩) = headB := by decide
set_option maxHeartbeats 1000000 in
theorem head_spec (E : Addr) (g : Nat) : SpecI Tryd.prog (gl E) g 10 [] [] (fun v M => v = .bool true ∧ M = []) := by
  refine specI_of Tryd.func10 rfl rfl (Nat.le_of_ble_eq_true rfl) (fun w F hI hF => ?_)
  (refine hc_seq ?_; refine hc_lex ?_; refine hx_plain rfl ?_; refine h_assign rfl rfl rfl rfl ?_; refine hx_nil ?_; refine hq_then ?_; refine hc_seq ?_; refine hc_lex ?_; refine hx_plain rfl ?_; (refine h_buildSlice rfl rfl rfl UC.out IC.size IC.zero rfl rfl (by intro v hv; simp at hv; first | (subst hv; rfl) | (rcases hv with rfl | rfl <;> rfl) | (rcases hv with rfl | rfl | rfl <;> rfl)) (by omega) rfl rfl (fun _ => ?_)); refine hx_plain rfl ?_)
  refine h_callW (post := fun u M => M = [RowV byteE 5 u ([7] ++ dg (IntKind.u64.wrap 258) 4)]) rfl rfl rfl rfl rfl rfl rfl rfl EC.out (fun w' h => put32_makes 258 (h.rdBlk [7] .head rfl (by decide) (one_row byteE _)) (by decide)) ?_
  rintro u M rfl
  (refine hx_plain rfl ?_)
  refine h_callW (post := fun u M => M = [RowV byteE 5 u headB]) rfl rfl rfl rfl rfl rfl rfl rfl EC.out (fun w' h => by rw [← head_bytes]; exact putText_makes (h.rdRowV .head) (by decide) (by decide)) ?_
  rintro vb M rfl
  (refine hx_plain rfl ?_; refine h_assign rfl rfl rfl rfl ?_; refine hx_nil ?_; refine hq_then ?_; refine hc_seq ?_; refine hc_lex ?_; refine hx_plain rfl ?_; refine h_move rfl rfl rfl rfl ?_; refine hx_plain rfl ?_; (refine h_buildSliceB rfl rfl rfl UC.out IC.size IC.zero rfl rfl rfl (by omega) rfl rfl (fun _ => ?_)); refine hx_plain rfl ?_)
  refine h_callR rfl rfl rfl rfl rfl rfl EC.out (fun w' h => sameBytes (h.rdRowV (.tail .head)) (h.rdBlk headB .head rfl (by decide) (flat_row byteE headB))) ?_
  rw [decide_eq_true rfl]
  (refine hx_plain rfl ?_; refine h_assign rfl rfl rfl rfl ?_; refine hx_nil ?_; refine hq_then ?_; refine hc_seq ?_; refine hc_lex ?_; refine hx_plain rfl ?_; refine h_move rfl rfl rfl rfl ?_; refine hx_plain rfl ?_)
  refine h_callW (post := fun u M => ∃ p, u = .pointer (some ⟨p, 0, none⟩) ∧ M = [RdrO p headB 0 0 0]) rfl rfl rfl rfl rfl rfl rfl rfl EC.out (fun w' h => newReader_makes (h.rdRowV (.tail .head)) (by decide)) ?_
  rintro u M ⟨p, rfl, rfl⟩
  (refine hx_plain rfl ?_; refine h_assign rfl rfl rfl rfl ?_; refine hx_nil ?_; refine hq_then ?_; refine hc_seq ?_; refine hc_seq ?_; refine hc_lex ?_; refine hx_plain rfl ?_; refine h_move rfl rfl rfl rfl ?_; refine hx_plain rfl ?_; refine h_not rfl rfl rfl rfl ?_; refine hx_plain rfl ?_; refine h_move rfl rfl rfl rfl ?_; refine hx_yes rfl rfl rfl ?_; refine h_move rfl rfl rfl rfl ?_; refine hx_yes rfl rfl rfl ?_; refine h_eqNil rfl rfl rfl UC.out rfl rfl ?_; refine hx_plain rfl ?_; refine h_pickF rfl rfl rfl rfl rfl ?_; refine hx_nil ?_; refine hq_then ?_; refine hc_condF rfl ?_; refine hc_skip ?_; refine hq_then ?_; refine hc_seq ?_; refine hc_lex ?_; refine hx_plain rfl ?_; refine h_move rfl rfl rfl rfl ?_; refine hx_plain rfl ?_)
  refine hx1_conv rfl rfl (C' := St w F [RdrX p headB 0 0]) (fun _ h => RdrO.toX (h.sub (.cons .head .nil))) ?_
  refine h_callI hI hF rfl rfl rfl rfl rfl rfl rfl rfl EC.out (.cons .head .nil) (u32_all p headB 0 0 4294967296 E g (by decide) (by decide)) ?_
  rintro u M ⟨rfl, rfl⟩
  rw [show U32R headB 0 0 4294967296 = (117440513, 4, 0) by decide]
  (refine hx_plain rfl ?_; refine h_assign rfl rfl rfl rfl ?_; refine hx_nil ?_; refine hq_then ?_; refine hc_seq ?_; refine hc_lex ?_; refine hx_plain rfl ?_; refine h_move rfl rfl rfl rfl ?_; refine hx_plain rfl ?_)
  refine h_callI hI hF rfl rfl rfl rfl rfl rfl rfl rfl EC.out (.cons .head .nil) (u32_all p headB 4 0 257 E g (by decide) (by decide)) ?_
  rintro u M ⟨rfl, rfl⟩
  rw [show U32R headB 4 0 257 = (0, 4, 12) by decide]
  (refine hx_plain rfl ?_; refine h_assign rfl rfl rfl rfl ?_; refine hx_nil ?_; refine hq_then ?_; refine hc_seq ?_; refine hc_lex ?_; refine hx_plain rfl ?_; refine h_move rfl rfl rfl rfl ?_; refine hx_plain rfl ?_)
  refine h_call rfl rfl rfl rfl rfl rfl rfl rfl EC.out (.cons .head .nil) (err_spec p headB 4 12) ?_
  rintro u M ⟨rfl, rfl⟩
  (refine hx_plain rfl ?_; refine h_move rfl rfl rfl rfl ?_; refine hx_plain rfl ?_; refine h_extract rfl rfl rfl rfl rfl ?_; refine hx_plain rfl ?_; refine h_extract rfl rfl rfl rfl rfl ?_; refine hx_plain rfl ?_; refine h_assign rfl rfl rfl rfl ?_; refine hx_plain rfl ?_; refine h_assign rfl rfl rfl rfl ?_; refine hx_nil ?_; refine hq_then ?_; refine hc_seq ?_; refine hc_lex ?_; refine hx_plain rfl ?_; refine h_move rfl rfl rfl rfl ?_; refine hx_plain rfl ?_; refine h_cmp rfl rfl rfl rfl rfl rfl ?_; refine hx_plain rfl ?_; refine h_move rfl rfl rfl rfl ?_; refine hx_yes rfl rfl rfl ?_; refine h_move rfl rfl rfl rfl ?_; refine hx_yes rfl rfl rfl ?_; refine h_cmp rfl rfl rfl rfl rfl rfl ?_; refine hx_plain rfl ?_; refine h_pickT rfl rfl rfl rfl rfl ?_; refine hx_plain rfl ?_; refine h_move rfl rfl rfl rfl ?_; refine hx_yes rfl rfl rfl ?_; refine h_move rfl rfl rfl rfl ?_; refine hx_yes rfl rfl rfl ?_)
  refine h_callR rfl rfl rfl rfl rfl rfl EC.out ((num_spec 12).reads _) ?_
  (refine hx_yes rfl rfl rfl ?_; refine h_cmp rfl rfl rfl rfl rfl rfl ?_; refine hx_plain rfl ?_; refine h_pickT rfl rfl rfl rfl rfl ?_; refine hx_plain rfl ?_; refine h_move rfl rfl rfl rfl ?_; refine hx_yes rfl rfl rfl ?_; refine h_move rfl rfl rfl rfl ?_; refine hx_yes rfl rfl rfl ?_; refine h_cmp rfl rfl rfl rfl rfl rfl ?_; refine hx_plain rfl ?_; refine h_pickT rfl rfl rfl rfl rfl ?_; refine hx_plain rfl ?_; refine h_assign rfl rfl rfl rfl ?_; refine hx_nil ?_; refine hq_then ?_; refine hc_ret ?_)
  exact hq_ret1 (.inr rfl) rfl rfl ⟨rfl, rfl⟩ (fun _ h => h.emp)
end Go.Proofs.YtjnnlfeohbidhaaDoor
