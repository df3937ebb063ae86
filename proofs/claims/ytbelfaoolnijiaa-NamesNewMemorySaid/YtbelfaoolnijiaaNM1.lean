import Derived.Test.YtbelfaoolnijiaaNB
import Derived.Test.YtbelfaoolnijiaaNJo
namespace Go.Proofs.Ytbelfaoolnijiaa
open Go Go.Proofs Go.RowKit
set_option maxRecDepth 4000

theorem num_spec (a : Int) : Spec0 Try.prog 15 [.int .i64 a] (.int .i64 a) := by
  refine spec_of Try.func15 rfl rfl (Nat.le_of_ble_eq_true rfl) (fun w F => ?_)
  (refine hc_seq ?_; refine hc_lex ?_; refine hx_plain rfl ?_; refine h_assign rfl rfl rfl rfl ?_; refine hx_nil ?_; refine hq_then ?_; refine hc_seq ?_; refine hc_lex ?_; refine hx_plain rfl ?_; refine h_move rfl rfl rfl rfl ?_; refine hx_plain rfl ?_; refine h_assign rfl rfl rfl rfl ?_; refine hx_nil ?_; refine hq_then ?_; refine hc_ret ?_)
  exact hq_ret1 (.inr rfl) rfl rfl ⟨rfl, rfl⟩ (fun _ h => h.emp)
theorem join_reads {xs : List ByteArray} {v : Value} {w : World} (h : Rd strE w v xs) (h0 : xs ≠ []) (h16 : xs.length ≤ 16) : Calls Try.prog 20 [v].toArray w (fun en w' => en = .returned (Nm.joinV xs) ∧ But w w' nowhere) := by
  obtain ⟨a, c, rfl, l, m, k⟩ := h
  obtain ⟨g, o, rfl, hc⟩ := k.resolve_left h0
  refine (Nm.join_some g o c xs w (List.length_pos_iff.2 h0) h16 l (fun j x hx => ?_)).mono fun e w' ⟨h1, h2⟩ => ⟨h1, but_of_below h2⟩
  have := hc j x hx 0 (.string x) rfl
  rw [show o + j * strE.sz + 0 = o + j from by show o + j * 1 + 0 = _; omega] at this
  exact this
theorem first_spec : Spec Try.prog 12 [] [] (fun u M => u = .bool true ∧ M = []) := by
  refine spec_of Try.func12 rfl rfl (Nat.le_of_ble_eq_true rfl) (fun w F => ?_)
  (refine hc_seq ?_; refine hc_lex ?_; refine hx_plain rfl ?_; refine h_assign rfl rfl rfl rfl ?_; refine hx_nil ?_; refine hq_then ?_; refine hc_seq ?_; refine hc_lex ?_; refine hx_plain rfl ?_)
  refine h_callRd rfl rfl rfl rfl rfl rfl EC.out (fun w' h => check_reads ⟨#[97, 32, 98]⟩ w') ?_
  rw [show Nm.checkV ⟨#[97, 32, 98]⟩ = 0 from by decide +kernel]
  (refine hx_plain rfl ?_; refine h_assign rfl rfl rfl rfl ?_; refine hx_nil ?_; refine hq_then ?_; refine hc_seq ?_; refine hc_lex ?_; refine hx_plain rfl ?_)
  refine h_callRd rfl rfl rfl rfl rfl rfl EC.out (fun w' h => check_reads ⟨#[97, 47, 98]⟩ w') ?_
  rw [show Nm.checkV ⟨#[97, 47, 98]⟩ = 31 from by decide +kernel]
  (refine hx_plain rfl ?_; refine h_assign rfl rfl rfl rfl ?_; refine hx_nil ?_; refine hq_then ?_; refine hc_seq ?_; refine hc_lex ?_; refine hx_plain rfl ?_)
  refine h_callW (post := fun u M => ∃ sl : SlV, u = .tuple #[sl.v, .int .i64 0] ∧ sl.len = [(⟨#[97]⟩ : ByteArray), ⟨#[98]⟩].length ∧ M = [RowV strE 9 sl.v [⟨#[97]⟩, ⟨#[98]⟩]]) rfl rfl rfl rfl rfl rfl rfl rfl EC.out (fun w' h => ?_) ?_
  · have := split_makes ⟨#[47, 97, 47, 98]⟩ w'
    rw [show spl ⟨#[47, 97, 47, 98]⟩ = ([⟨#[97]⟩, ⟨#[98]⟩], 0) by simp [spl, Nm.splitV, Nm.partsB, Nm.partsL, Nm.faultOf]; decide +kernel] at this
    exact this
  rintro u M ⟨sl, rfl, _, rfl⟩
  (refine hx_plain rfl ?_; refine h_move rfl rfl rfl rfl ?_; refine hx_plain rfl ?_; refine h_extract rfl rfl rfl rfl rfl ?_; refine hx_plain rfl ?_; refine h_extract rfl rfl rfl rfl rfl ?_; refine hx_plain rfl ?_; refine h_assign rfl rfl rfl rfl ?_; refine hx_plain rfl ?_; refine h_assign rfl rfl rfl rfl ?_; refine hx_nil ?_; refine hq_then ?_; refine hc_seq ?_; refine hc_lex ?_; refine hx_plain rfl ?_; (refine h_buildSlice rfl rfl rfl UC.out IC.size IC.zero rfl rfl (by intro v hv; simp at hv; first | (subst hv; rfl) | (rcases hv with rfl | rfl <;> rfl) | (rcases hv with rfl | rfl | rfl <;> rfl)) (by omega) rfl rfl (fun _ => ?_)); refine hx_plain rfl ?_)
  refine h_callRd rfl rfl rfl rfl rfl rfl EC.out (fun w' h => join_reads (xs := [⟨#[120]⟩, ⟨#[121]⟩]) (St.rdHolds (E := strE) (St.blk_holds [⟨#[120]⟩, ⟨#[121]⟩] h rfl (by decide) (flat_row strE [⟨#[120]⟩, ⟨#[121]⟩])) .head (.head _)) (fun e => by cases e) (by decide)) ?_
  rw [show Nm.joinV [⟨#[120]⟩, ⟨#[121]⟩] = .tuple #[.string ⟨#[47, 120, 47, 121]⟩, .int .i64 0] from by unfold Nm.joinV; rw [show Nm.goodB [⟨#[120]⟩, ⟨#[121]⟩] = true by decide +kernel]; rfl]
  (refine hx_plain rfl ?_; refine h_move rfl rfl rfl rfl ?_; refine hx_plain rfl ?_; refine h_extract rfl rfl rfl rfl rfl ?_; refine hx_plain rfl ?_; refine h_extract rfl rfl rfl rfl rfl ?_; refine hx_plain rfl ?_; refine h_assign rfl rfl rfl rfl ?_; refine hx_plain rfl ?_; refine h_assign rfl rfl rfl rfl ?_; refine hx_nil ?_; refine hq_then ?_; refine hc_seq ?_; refine hc_lex ?_; refine hx_plain rfl ?_; refine h_move rfl rfl rfl rfl ?_; refine hx_plain rfl ?_; (refine h_buildSlice rfl rfl rfl UC.out IC.size IC.zero rfl rfl (by intro v hv; simp at hv; first | (subst hv; rfl) | (rcases hv with rfl | rfl <;> rfl) | (rcases hv with rfl | rfl | rfl <;> rfl)) (by omega) rfl rfl (fun _ => ?_)); refine hx_plain rfl ?_)
  refine h_callRd rfl rfl rfl rfl rfl rfl EC.out (fun w' h => sameTexts (h.rdRowV (.tail (.tail .head))) (St.rdHolds (E := strE) (St.blk_holds [⟨#[97]⟩, ⟨#[98]⟩] h rfl (by decide) (flat_row strE [⟨#[97]⟩, ⟨#[98]⟩])) .head (.head _))) ?_
  rw [show decide ([(⟨#[97]⟩ : ByteArray), ⟨#[98]⟩] = [⟨#[97]⟩, ⟨#[98]⟩]) = true from decide_eq_true rfl]
  (refine hx_plain rfl ?_; refine h_assign rfl rfl rfl rfl ?_; refine hx_nil ?_; refine hq_then ?_; refine hc_seq ?_; refine hc_lex ?_; refine hx_plain rfl ?_; refine h_move rfl rfl rfl rfl ?_; refine hx_plain rfl ?_; refine h_move rfl rfl rfl rfl ?_; refine hx_yes rfl rfl rfl ?_; refine h_move rfl rfl rfl rfl ?_; refine hx_yes rfl rfl rfl ?_)
  refine h_callR rfl rfl rfl rfl rfl rfl EC.out ((num_spec _).reads _) ?_
  (refine hx_yes rfl rfl rfl ?_; refine h_cmp rfl rfl rfl rfl rfl rfl ?_; refine hx_plain rfl ?_; refine h_pickT rfl rfl rfl rfl rfl ?_; refine hx_plain rfl ?_; refine h_move rfl rfl rfl rfl ?_; refine hx_yes rfl rfl rfl ?_; refine h_move rfl rfl rfl rfl ?_; refine hx_yes rfl rfl rfl ?_)
  refine h_callR rfl rfl rfl rfl rfl rfl EC.out ((num_spec _).reads _) ?_
  (refine hx_yes rfl rfl rfl ?_; refine h_cmp rfl rfl rfl rfl rfl rfl ?_; refine hx_plain rfl ?_; refine h_pickT rfl rfl rfl rfl rfl ?_; refine hx_plain rfl ?_; refine h_move rfl rfl rfl rfl ?_; refine hx_yes rfl rfl rfl ?_; refine h_move rfl rfl rfl rfl ?_; refine hx_yes rfl rfl rfl ?_)
  refine h_callR rfl rfl rfl rfl rfl rfl EC.out ((num_spec _).reads _) ?_
  (refine hx_yes rfl rfl rfl ?_; refine h_cmp rfl rfl rfl rfl rfl rfl ?_; refine hx_plain rfl ?_; refine h_pickT rfl rfl rfl rfl rfl ?_; refine hx_plain rfl ?_; refine h_move rfl rfl rfl rfl ?_; refine hx_yes rfl rfl rfl ?_; refine h_move rfl rfl rfl rfl ?_; refine hx_yes rfl rfl rfl ?_)
  refine h_callR rfl rfl rfl rfl rfl rfl EC.out ((num_spec _).reads _) ?_
  (refine hx_yes rfl rfl rfl ?_; refine h_cmp rfl rfl rfl rfl rfl rfl ?_; refine hx_plain rfl ?_; refine h_pickT rfl rfl rfl rfl rfl ?_; refine hx_plain rfl ?_; refine h_move rfl rfl rfl rfl ?_; refine hx_yes rfl rfl rfl ?_; refine h_move rfl rfl rfl rfl ?_; refine hx_yes rfl rfl rfl ?_; refine h_cmpS rfl rfl rfl rfl rfl rfl ?_; refine hx_plain rfl ?_; refine h_pickT rfl rfl rfl rfl rfl ?_; refine hx_plain rfl ?_; refine h_assign rfl rfl rfl rfl ?_; refine hx_nil ?_; refine hq_then ?_; refine hc_ret ?_)
  exact hq_ret1 (.inr rfl) rfl rfl ⟨congrArg Value.bool (by decide +kernel), rfl⟩ (fun _ h => h.emp)
end Go.Proofs.Ytbelfaoolnijiaa
