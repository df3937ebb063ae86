import Derived.Test.YtjnnlfeohbidhaaDoorBt5
import Derived.Test.YtjnnlfeohbidhaaDoorEngJ
import Derived.Test.YtjnnlfeohbidhaaDoorRf1
namespace Go.Proofs.YtjnnlfeohbidhaaDoor
open Go Go.Proofs
set_option maxRecDepth 4000

set_option maxHeartbeats 1000000 in
theorem lay_row (g cap : Nat) (bs : List Int) (x : Int) (m : Nat) (hl : bs.length + m ≤ cap) (hm : m ≤ 8) :
    Spec Tryd.prog 46 [.slice (some ⟨g, 0, none⟩) bs.length cap, .int .u64 x, .int .i64 (m : Int)] [Row byteE 5 g cap bs] (fun u M => u = .slice (some ⟨g, 0, none⟩) (bs.length + m) cap ∧ M = [Row byteE 5 g cap (bs ++ dg x m)]) := by
  refine spec_of Tryd.func46 rfl rfl (Nat.le_of_ble_eq_true rfl) (fun w F => ?_)
  (refine hc_seq ?_; refine hc_lex ?_; refine hx_plain rfl ?_; refine h_assign rfl rfl rfl rfl ?_; refine hx_nil ?_; refine hq_then ?_; refine hc_seq ?_; refine hc_seq ?_; refine hc_lex ?_; refine hx_plain rfl ?_; refine h_move rfl rfl rfl rfl ?_; refine hx_plain rfl ?_; refine h_arithI rfl rfl rfl rfl (by omega) rfl rfl ?_; refine hx_plain rfl ?_; refine h_assign rfl rfl rfl rfl ?_; refine hx_nil ?_; refine hq_then ?_; refine hc_block ?_)
  refine hc_cut (id := 0) (Y := Unit) (fun _ => [(0, .slice (some ⟨g, 0, none⟩) (bs.length + m) cap)]) (fun v => [Row byteE 5 g cap (bs ++ dg x m)]) (fun _ => True) ?_ ?_
  · refine hc_loop (X := Nat × List Int) (fun y => [(0, .slice (some ⟨g, 0, none⟩) y.2.length cap), (1, .int .u64 x), (2, .int .i64 ((y.1 : Int) - 1))]) (fun y => [Row byteE 5 g cap y.2]) (fun y => y.1 ≤ 8 ∧ y.2 ++ dg x y.1 = bs ++ dg x m) (fun y => y.1) (m, bs) (.cons rfl (.cons rfl (.cons rfl .nil))) ⟨hm, rfl⟩ (fun _ h => h) ?_
    rintro ⟨j, cs⟩ ⟨hj, he⟩
    dsimp only at hj he ⊢
    have hlen := congrArg List.length he
    simp only [List.length_append, dg_len] at hlen
    cases j with
    | zero =>
      rw [show cs.length = bs.length + m by omega]
      (refine hc_seq ?_; refine hc_seq ?_; refine hc_lex ?_; refine hx_plain rfl ?_; refine h_move rfl rfl rfl rfl ?_; refine hx_plain rfl ?_; refine h_cmp rfl rfl rfl rfl rfl rfl ?_; refine hx_nil ?_; refine hq_then ?_; refine hc_condF rfl ?_; refine hc_exit ?_; refine hq_exit_then ?_; refine hq_exit_then ?_)
      refine hq_cut () trivial (.cons rfl .nil) (fun _ h => ?_)
      rw [dg, List.append_nil] at he
      rw [← he]
      exact h
    | succ j =>
      have e1 : (((j + 1 : Nat) : Int) - 1) = (j : Int) := by omega
      rw [e1]
      (refine hc_seq ?_; refine hc_seq ?_; refine hc_lex ?_; refine hx_plain rfl ?_; refine h_move rfl rfl rfl rfl ?_; refine hx_plain rfl ?_; refine h_cmp rfl rfl rfl rfl rfl rfl ?_; refine hx_nil ?_; refine hq_then ?_; refine hc_condT rfl ?_; refine hc_skip ?_; refine hq_then ?_; refine hc_seq ?_; refine hc_block ?_; refine hc_lex ?_; refine hx_plain rfl ?_; refine h_move rfl rfl rfl rfl ?_; refine hx_plain rfl ?_; refine h_move rfl rfl rfl rfl ?_; refine hx_plain rfl ?_; refine h_move rfl rfl rfl rfl ?_; refine hx_plain rfl ?_; refine h_arithI rfl rfl rfl rfl (by omega) rfl rfl ?_; refine hx_plain rfl ?_; refine h_shrU rfl rfl rfl (by omega) rfl rfl ?_; refine hx_plain rfl ?_; refine h_convInt rfl rfl UC.out UC.out rfl rfl ?_; refine hx_plain rfl ?_; (refine h_buildSlice rfl rfl rfl UC.out IC.size IC.zero rfl rfl (by intro v hv; simp at hv; first | (subst hv; rfl) | (rcases hv with rfl | rfl <;> rfl) | (rcases hv with rfl | rfl | rfl <;> rfl)) (by omega) rfl rfl (fun _ => ?_)); refine hx_plain rfl ?_)
      refine h_appendFit (E := byteE) (T := 5) (xs := cs) [IntKind.u8.wrap (x / 2 ^ (8 * (j : Int)).toNat)] rfl rfl rfl rfl rfl rfl UC.out IC.size (.tail .head) (fun w' h => h.rdBlk [IntKind.u8.wrap (x / 2 ^ (8 * (j : Int)).toNat)] .head rfl (by unfold maxLen; omega) (one_row byteE _)) (by show cs.length + 1 ≤ cap; omega) rfl rfl ?_
      (refine hx_plain rfl ?_; refine h_assign rfl rfl rfl rfl ?_; refine hx_nil ?_; refine hq_norm_block ?_; refine hq_then ?_; refine hc_lex ?_; refine hx_plain rfl ?_; refine h_move rfl rfl rfl rfl ?_; refine hx_plain rfl ?_; refine h_arithI rfl rfl rfl rfl (by omega) rfl rfl ?_; refine hx_plain rfl ?_; refine h_assign rfl rfl rfl rfl ?_; refine hx_nil ?_)
      have e2 : (8 * (j : Int)).toNat = 8 * j := by omega
      refine hq_round (j, cs ++ [IntKind.u8.wrap (x / 2 ^ (8 * j))]) (by show j < j + 1; omega) ⟨by show j ≤ 8; omega, by show (cs ++ [_]) ++ dg x j = _; rw [← he, dg, List.append_assoc]; rfl⟩ (.cons (by rw [List.length_append]; rfl) (.cons rfl (.cons rfl .nil))) (fun _ h => ?_)
      show St w F [Row byteE 5 g cap (cs ++ [IntKind.u8.wrap (x / 2 ^ (8 * j))])] _
      rw [← e2]
      exact h.sub (.cons .head .nil)
  · rintro ⟨⟩ _
    (refine hq_exit_block ?_; refine hq_then ?_; refine hc_seq ?_; refine hc_lex ?_; refine hx_plain rfl ?_; refine h_move rfl rfl rfl rfl ?_; refine hx_plain rfl ?_; refine h_assign rfl rfl rfl rfl ?_; refine hx_nil ?_; refine hq_then ?_; refine hc_ret ?_)
    exact hq_ret1 (.inr rfl) rfl rfl ⟨rfl, rfl⟩ (fun _ h => h)
set_option maxHeartbeats 1000000 in
theorem put64_makes {bs : List Int} {w : World} {v : Value} (x : Int) (h1 : Rd byteE w v bs) (hl : bs.length ≤ 140737488355200) :
    Makes Tryd.prog 18 [v, .int .i64 x] w (fun u M => M = [RowV byteE 5 u (bs ++ dg (IntKind.u64.wrap x) 8)]) := by
  refine makes_of Tryd.func18 rfl rfl (Nat.le_of_ble_eq_true rfl) ?_
  (refine hc_seq ?_; refine hc_lex ?_; refine hx_plain rfl ?_; refine h_assign rfl rfl rfl rfl ?_; refine hx_nil ?_; refine hq_then ?_; refine hc_seq ?_; refine hc_lex ?_; refine hx_plain rfl ?_; refine h_move rfl rfl rfl rfl ?_; refine hx_plain rfl ?_; refine h_move rfl rfl rfl rfl ?_; refine hx_plain rfl ?_; refine h_convInt rfl rfl UC.out UC.out rfl rfl ?_; refine hx_plain rfl ?_)
  refine h_callW (post := fun u M => M = [RowV byteE 5 u (bs ++ dg (IntKind.u64.wrap x) 8)]) rfl rfl rfl rfl rfl rfl rfl rfl EC.out (fun w' h => putSum_makes (IntKind.u64.wrap x) (h.rd h1) hl) ?_
  rintro u M rfl
  (refine hx_plain rfl ?_; refine h_assign rfl rfl rfl rfl ?_; refine hx_nil ?_; refine hq_then ?_; refine hc_ret ?_)
  exact hq_ret1 (.inr rfl) rfl rfl rfl (fun _ h => h)
/-- The field of these bytes. -/
def fieldB (ds : List Int) : List Int := dg (IntKind.u64.wrap (ds.length : Int)) 4 ++ ds ++ List.replicate (padN ds.length) 0
set_option maxHeartbeats 1000000 in
theorem putBytes_makes {bs ds : List Int} {w : World} {v vd : Value} (h1 : Rd byteE w v bs) (h2 : Rd byteE w vd ds) (hl : bs.length + ds.length ≤ 140737488355300) (hd : ds.length ≤ 140737488355200) :
    Makes Tryd.prog 40 [v, vd] w (fun u M => M = [RowV byteE 5 u (bs ++ fieldB ds)]) := by
  obtain ⟨a2, c2, e2, l2, m2, k2⟩ := id h2
  subst e2
  have hpad := padN_lt ds.length
  refine makes_of Tryd.func40 rfl rfl (Nat.le_of_ble_eq_true rfl) ?_
  (refine hc_seq ?_; refine hc_lex ?_; refine hx_plain rfl ?_; refine h_assign rfl rfl rfl rfl ?_; refine hx_nil ?_; refine hq_then ?_; refine hc_seq ?_; refine hc_lex ?_; refine hx_plain rfl ?_; refine h_move rfl rfl rfl rfl ?_; refine hx_plain rfl ?_; refine h_move rfl rfl rfl rfl ?_; refine hx_plain rfl ?_; refine h_len_slice rfl rfl rfl UC.out rfl rfl rfl ?_; refine hx_plain rfl ?_; refine h_arithI rfl rfl rfl rfl (by omega) rfl rfl ?_; refine hx_plain rfl ?_)
  rw [show (8 : Int) + (ds.length : Int) = ((8 + ds.length : Nat) : Int) by omega]
  refine h_callW (post := fun u M => ∃ g, u = .slice (some ⟨g, 0, none⟩) bs.length (bs.length + (8 + ds.length)) ∧ M = [Row byteE 5 g (bs.length + (8 + ds.length)) bs]) rfl rfl rfl rfl rfl rfl rfl rfl EC.out (fun w' h => fresh_makes (8 + ds.length) (h.rd h1) (by omega)) ?_
  rintro u M ⟨g, rfl, rfl⟩
  (refine hx_plain rfl ?_; refine h_move rfl rfl rfl rfl ?_; refine hx_plain rfl ?_; refine h_len_slice rfl rfl rfl UC.out rfl rfl rfl ?_; refine hx_plain rfl ?_; refine h_convInt rfl rfl UC.out UC.out rfl rfl ?_; refine hx_plain rfl ?_)
  refine h_call rfl rfl rfl rfl rfl rfl rfl rfl EC.out (.cons .head .nil) (lay_row g _ bs (IntKind.u64.wrap (ds.length : Int)) 4 (by omega) (by omega)) ?_
  rintro u M ⟨rfl, rfl⟩
  (refine hx_plain rfl ?_; refine h_assign rfl rfl rfl rfl ?_; refine hx_nil ?_; refine hq_then ?_; refine hc_seq ?_; refine hc_lex ?_; refine hx_plain rfl ?_; refine h_move rfl rfl rfl rfl ?_; refine hx_plain rfl ?_; refine h_move rfl rfl rfl rfl ?_; refine hx_plain rfl ?_)
  refine h_appendFit (E := byteE) (T := 5) (xs := bs ++ dg (IntKind.u64.wrap (ds.length : Int)) 4) ds rfl rfl rfl rfl (by rw [List.length_append, dg_len]) rfl UC.out IC.size .head (fun w' h => h.rd h2) (by rw [List.length_append, dg_len]; omega) rfl rfl ?_
  (refine hx_plain rfl ?_; refine h_assign rfl rfl rfl rfl ?_; refine hx_nil ?_; refine hq_then ?_; refine hc_seq ?_; refine hc_lex ?_; refine hx_plain rfl ?_; refine h_move rfl rfl rfl rfl ?_; refine hx_plain rfl ?_; refine h_move rfl rfl rfl rfl ?_; refine hx_plain rfl ?_; refine h_len_slice rfl rfl rfl UC.out rfl rfl rfl ?_; refine hx_plain rfl ?_)
  refine h_callR rfl rfl rfl rfl rfl rfl EC.out ((padding_spec ds.length (by omega)).reads _) ?_
  (refine hx_plain rfl ?_)
  refine h_appendZ (xs := bs ++ dg (IntKind.u64.wrap (ds.length : Int)) 4 ++ ds) (padN ds.length) rfl rfl rfl rfl (by simp only [List.length_append, dg_len]) rfl UC.out UC.out IC.out .head (by omega) (by omega) (by simp only [List.length_append, dg_len]; omega) rfl rfl ?_
  (refine hx_plain rfl ?_; refine h_assign rfl rfl rfl rfl ?_; refine hx_nil ?_; refine hq_then ?_; refine hc_ret ?_)
  refine hq_ret1 (.inr rfl) rfl rfl rfl (fun _ h => ?_)
  have h' := h.rowV_mk
  have e5 : bs ++ dg (IntKind.u64.wrap (ds.length : Int)) 4 ++ ds ++ List.replicate (padN ds.length) 0 = bs ++ fieldB ds := by unfold fieldB; simp only [List.append_assoc]
  have e6 : (bs ++ dg (IntKind.u64.wrap (ds.length : Int)) 4 ++ ds).length + padN ds.length = (bs ++ fieldB ds).length := by rw [← e5, List.length_append (bs := List.replicate _ _), List.length_replicate]
  rw [e5] at h'
  rw [e6]
  exact h'
end Go.Proofs.YtjnnlfeohbidhaaDoor
