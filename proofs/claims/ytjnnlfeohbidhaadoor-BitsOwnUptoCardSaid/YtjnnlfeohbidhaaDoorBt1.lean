import Derived.Test.YtjnnlfeohbidhaaDoorEngW
import Derived.Test.YtjnnlfeohbidhaaDoorTab
namespace Go.Proofs.YtjnnlfeohbidhaaDoor
open Go Go.Proofs
set_option maxRecDepth 4000

/-- The lowest m bytes of x, the highest first. -/
def dg (x : Int) : Nat → List Int
  | 0 => []
  | m + 1 => IntKind.u8.wrap (x / 2 ^ (8 * m)) :: dg x m
theorem dg_len (x : Int) : ∀ m, (dg x m).length = m
  | 0 => rfl
  | m + 1 => by rw [dg, List.length_cons, dg_len x m]

set_option maxHeartbeats 1000000 in
theorem lay_spec (v : Value) (bs : List Int) (x : Int) (m : Nat) (hl : bs.length ≤ 140737488355200) (hm : m ≤ 8) :
    Spec Tryd.prog 46 [v, .int .u64 x, .int .i64 (m : Int)] [RowV byteE 5 v bs] (fun u M => M = [RowV byteE 5 u (bs ++ dg x m)]) := by
  refine spec_of Tryd.func46 rfl rfl (Nat.le_of_ble_eq_true rfl) (fun w F => ?_)
  (refine hc_seq ?_; refine hc_lex ?_; refine hx_plain rfl ?_; refine h_assign rfl rfl rfl rfl ?_; refine hx_nil ?_; refine hq_then ?_; refine hc_seq ?_; refine hc_seq ?_; refine hc_lex ?_; refine hx_plain rfl ?_; refine h_move rfl rfl rfl rfl ?_; refine hx_plain rfl ?_; refine h_arithI rfl rfl rfl rfl (by omega) rfl rfl ?_; refine hx_plain rfl ?_; refine h_assign rfl rfl rfl rfl ?_; refine hx_nil ?_; refine hq_then ?_; refine hc_block ?_)
  refine hc_cut (id := 0) (Y := Value) (fun v => [(0, v)]) (fun v => [RowV byteE 5 v (bs ++ dg x m)]) (fun _ => True) ?_ ?_
  · refine hc_loop (X := Nat × Value × List Int) (fun y => [(0, y.2.1), (1, .int .u64 x), (2, .int .i64 ((y.1 : Int) - 1))]) (fun y => [RowV byteE 5 y.2.1 y.2.2]) (fun y => y.1 ≤ 8 ∧ y.2.2 ++ dg x y.1 = bs ++ dg x m ∧ y.2.2.length ≤ 140737488355200 + 8) (fun y => y.1) (m, v, bs) (.cons rfl (.cons rfl (.cons rfl .nil))) ⟨hm, rfl, by show bs.length ≤ _; omega⟩ (fun _ h => h) ?_
    rintro ⟨j, v, cs⟩ ⟨hj, he, hc⟩
    dsimp only at hj he hc ⊢
    cases j with
    | zero =>
      (refine hc_seq ?_; refine hc_seq ?_; refine hc_lex ?_; refine hx_plain rfl ?_; refine h_move rfl rfl rfl rfl ?_; refine hx_plain rfl ?_; refine h_cmp rfl rfl rfl rfl rfl rfl ?_; refine hx_nil ?_; refine hq_then ?_; refine hc_condF rfl ?_; refine hc_exit ?_; refine hq_exit_then ?_; refine hq_exit_then ?_)
      refine hq_cut v trivial (.cons rfl .nil) (fun _ h => ?_)
      rw [dg, List.append_nil] at he
      rw [← he]
      exact h
    | succ j =>
      have hlen : cs.length < 140737488355200 + 8 := by
        have := congrArg List.length he
        simp only [List.length_append, dg_len] at this
        omega
      have e1 : (((j + 1 : Nat) : Int) - 1) = (j : Int) := by omega
      rw [e1]
      (refine hc_seq ?_; refine hc_seq ?_; refine hc_lex ?_; refine hx_plain rfl ?_; refine h_move rfl rfl rfl rfl ?_; refine hx_plain rfl ?_; refine h_cmp rfl rfl rfl rfl rfl rfl ?_; refine hx_nil ?_; refine hq_then ?_; refine hc_condT rfl ?_; refine hc_skip ?_; refine hq_then ?_; refine hc_seq ?_; refine hc_block ?_; refine hc_lex ?_; refine hx_plain rfl ?_; refine h_move rfl rfl rfl rfl ?_; refine hx_plain rfl ?_; refine h_move rfl rfl rfl rfl ?_; refine hx_plain rfl ?_; refine h_move rfl rfl rfl rfl ?_; refine hx_plain rfl ?_; refine h_arithI rfl rfl rfl rfl (by omega) rfl rfl ?_; refine hx_plain rfl ?_; refine h_shrU rfl rfl rfl (by omega) rfl rfl ?_; refine hx_plain rfl ?_; refine h_convInt rfl rfl UC.out UC.out rfl rfl ?_; refine hx_plain rfl ?_; (refine h_buildSlice rfl rfl rfl UC.out IC.size IC.zero rfl rfl (by intro v hv; simp at hv; first | (subst hv; rfl) | (rcases hv with rfl | rfl <;> rfl) | (rcases hv with rfl | rfl | rfl <;> rfl)) (by omega) rfl rfl (fun _ => ?_)); refine hx_plain rfl ?_)
      refine h_append (m := 1) (E := byteE) (T := 5) (xs := cs) (ys := [IntKind.u8.wrap (x / 2 ^ (8 * (j : Int)).toNat)]) rfl rfl rfl rfl rfl UC.out IC.out rfl (.cons (.tail .head) (.cons .head .nil)) rfl (one_row byteE _) (by unfold maxLen; omega) (by omega) rfl rfl (fun v' _ => ?_)
      (refine hx_plain rfl ?_; refine h_assign rfl rfl rfl rfl ?_; refine hx_nil ?_; refine hq_norm_block ?_; refine hq_then ?_; refine hc_lex ?_; refine hx_plain rfl ?_; refine h_move rfl rfl rfl rfl ?_; refine hx_plain rfl ?_; refine h_arithI rfl rfl rfl rfl (by omega) rfl rfl ?_; refine hx_plain rfl ?_; refine h_assign rfl rfl rfl rfl ?_; refine hx_nil ?_)
      have e2 : (8 * (j : Int)).toNat = 8 * j := by omega
      refine hq_round (j, v', cs ++ [IntKind.u8.wrap (x / 2 ^ (8 * j))]) (by show j < j + 1; omega) ⟨by show j ≤ 8; omega, by show (cs ++ [_]) ++ dg x j = _; rw [← he, dg, List.append_assoc]; rfl, by show (cs ++ [_]).length ≤ _; rw [List.length_append, List.length_singleton]; omega⟩ (.cons rfl (.cons rfl (.cons rfl .nil))) (fun _ h => ?_)
      show St w F [RowV byteE 5 v' (cs ++ [IntKind.u8.wrap (x / 2 ^ (8 * j))])] _
      rw [← e2]
      exact h.sub (.cons .head .nil)
  · rintro v _
    (refine hq_exit_block ?_; refine hq_then ?_; refine hc_seq ?_; refine hc_lex ?_; refine hx_plain rfl ?_; refine h_move rfl rfl rfl rfl ?_; refine hx_plain rfl ?_; refine h_assign rfl rfl rfl rfl ?_; refine hx_nil ?_; refine hq_then ?_; refine hc_ret ?_)
    exact hq_ret1 (.inr rfl) rfl rfl rfl (fun _ h => h)
end Go.Proofs.YtjnnlfeohbidhaaDoor
