import Derived.Test.YtjnnlfeohbidhaaDoorBt1
namespace Go.Proofs.YtjnnlfeohbidhaaDoor
open Go Go.Proofs
set_option maxRecDepth 4000

theorem fresh_cut {bs : List Int} {z : Int} : bs.take (List.replicate bs.length z).length ++ (List.replicate bs.length z).drop bs.length = bs := by simp
set_option maxHeartbeats 1000000 in
theorem fresh_makes {bs : List Int} {w : World} {v : Value} (m : Nat) (h1 : Rd byteE w v bs) (hl : bs.length + m ≤ 140737488355328) :
    Makes Tryd.prog 47 [v, .int .i64 (m : Int)] w (fun u M => ∃ g, u = .slice (some ⟨g, 0, none⟩) bs.length (bs.length + m) ∧ M = [Row byteE 5 g (bs.length + m) bs]) := by
  obtain ⟨a1, c1, e1, l1, m1, k1⟩ := id h1
  subst e1
  refine makes_of Tryd.func47 rfl rfl (Nat.le_of_ble_eq_true rfl) ?_
  have e1 : (bs.length : Int) + (m : Int) = ((bs.length + m : Nat) : Int) := by omega
  (refine hc_seq ?_; refine hc_lex ?_; refine hx_plain rfl ?_; refine h_assign rfl rfl rfl rfl ?_; refine hx_nil ?_; refine hq_then ?_; refine hc_seq ?_; refine hc_lex ?_; refine hx_plain rfl ?_; refine h_move rfl rfl rfl rfl ?_; refine hx_plain rfl ?_; refine h_len_slice rfl rfl rfl UC.out rfl rfl rfl ?_; refine hx_plain rfl ?_; refine h_move rfl rfl rfl rfl ?_; refine hx_plain rfl ?_; refine h_len_slice rfl rfl rfl UC.out rfl rfl rfl ?_; refine hx_plain rfl ?_; refine h_move rfl rfl rfl rfl ?_; refine hx_plain rfl ?_; refine h_arithI rfl rfl rfl rfl (by omega) rfl rfl ?_; refine hx_plain rfl ?_)
  rw [e1]
  refine h_makeSlice byteE (T := 5) (l := bs.length) (c := bs.length + m) (0 : Int) rfl rfl rfl rfl UC.out IC.out rfl (by omega) (by unfold maxLen; omega) (by omega) rfl rfl (fun g => ?_)
  (refine hx_plain rfl ?_; refine h_assign rfl rfl rfl rfl ?_; refine hx_nil ?_; refine hq_then ?_; refine hc_seq ?_; refine hc_lex ?_; refine hx_plain rfl ?_; refine h_move rfl rfl rfl rfl ?_; refine hx_plain rfl ?_; refine h_move rfl rfl rfl rfl ?_; refine hx_plain rfl ?_)
  have e2 : (List.replicate bs.length (0 : Int)).length = bs.length := List.length_replicate
  refine h_copy (xs := List.replicate bs.length (0 : Int)) (ys := bs) rfl rfl rfl .head (by rw [e2]; rfl) rfl UC.out IC.size (fun w' h => h.rd h1) rfl rfl ?_
  rw [fresh_cut]
  (refine hx_nil ?_; refine hq_then ?_; refine hc_seq ?_; refine hc_lex ?_; refine hx_plain rfl ?_; refine h_move rfl rfl rfl rfl ?_; refine hx_plain rfl ?_; refine h_assign rfl rfl rfl rfl ?_; refine hx_nil ?_; refine hq_then ?_; refine hc_ret ?_)
  exact hq_ret1 (.inr rfl) rfl rfl ⟨g, rfl, rfl⟩ (fun _ h => h)

set_option maxHeartbeats 1000000 in
theorem put32_makes {bs : List Int} {w : World} {v : Value} (x : Int) (h1 : Rd byteE w v bs) (hl : bs.length ≤ 140737488355200) :
    Makes Tryd.prog 17 [v, .int .i64 x] w (fun u M => M = [RowV byteE 5 u (bs ++ dg (IntKind.u64.wrap x) 4)]) := by
  refine makes_of Tryd.func17 rfl rfl (Nat.le_of_ble_eq_true rfl) ?_
  (refine hc_seq ?_; refine hc_lex ?_; refine hx_plain rfl ?_; refine h_assign rfl rfl rfl rfl ?_; refine hx_nil ?_; refine hq_then ?_; refine hc_seq ?_; refine hc_lex ?_; refine hx_plain rfl ?_; refine h_move rfl rfl rfl rfl ?_; refine hx_plain rfl ?_)
  refine h_callW (post := fun u M => ∃ g, u = .slice (some ⟨g, 0, none⟩) bs.length (bs.length + 4) ∧ M = [Row byteE 5 g (bs.length + 4) bs]) rfl rfl rfl rfl rfl rfl rfl rfl EC.out (fun w' h => fresh_makes 4 (h.rd h1) (by omega)) ?_
  rintro u M ⟨g, rfl, rfl⟩
  (refine hx_plain rfl ?_; refine h_move rfl rfl rfl rfl ?_; refine hx_plain rfl ?_; refine h_convInt rfl rfl UC.out UC.out rfl rfl ?_; refine hx_plain rfl ?_)
  refine hx1_conv rfl rfl (C' := St w nowhere [RowV byteE 5 (.slice (some ⟨g, 0, none⟩) bs.length (bs.length + 4)) bs]) (fun _ h => h.rowV_mk) ?_
  refine h_call rfl rfl rfl rfl rfl rfl rfl rfl EC.out (.cons .head .nil) (lay_spec _ bs (IntKind.u64.wrap x) 4 hl (by omega)) ?_
  rintro u M rfl
  (refine hx_plain rfl ?_; refine h_assign rfl rfl rfl rfl ?_; refine hx_nil ?_; refine hq_then ?_; refine hc_ret ?_)
  exact hq_ret1 (.inr rfl) rfl rfl rfl (fun _ h => h)

set_option maxHeartbeats 1000000 in
theorem putSum_makes {bs : List Int} {w : World} {v : Value} (x : Int) (h1 : Rd byteE w v bs) (hl : bs.length ≤ 140737488355200) :
    Makes Tryd.prog 19 [v, .int .u64 x] w (fun u M => M = [RowV byteE 5 u (bs ++ dg x 8)]) := by
  refine makes_of Tryd.func19 rfl rfl (Nat.le_of_ble_eq_true rfl) ?_
  (refine hc_seq ?_; refine hc_lex ?_; refine hx_plain rfl ?_; refine h_assign rfl rfl rfl rfl ?_; refine hx_nil ?_; refine hq_then ?_; refine hc_seq ?_; refine hc_lex ?_; refine hx_plain rfl ?_; refine h_move rfl rfl rfl rfl ?_; refine hx_plain rfl ?_)
  refine h_callW (post := fun u M => ∃ g, u = .slice (some ⟨g, 0, none⟩) bs.length (bs.length + 8) ∧ M = [Row byteE 5 g (bs.length + 8) bs]) rfl rfl rfl rfl rfl rfl rfl rfl EC.out (fun w' h => fresh_makes 8 (h.rd h1) (by omega)) ?_
  rintro u M ⟨g, rfl, rfl⟩
  (refine hx_plain rfl ?_; refine h_move rfl rfl rfl rfl ?_; refine hx_plain rfl ?_)
  refine hx1_conv rfl rfl (C' := St w nowhere [RowV byteE 5 (.slice (some ⟨g, 0, none⟩) bs.length (bs.length + 8)) bs]) (fun _ h => h.rowV_mk) ?_
  refine h_call rfl rfl rfl rfl rfl rfl rfl rfl EC.out (.cons .head .nil) (lay_spec _ bs x 8 hl (by omega)) ?_
  rintro u M rfl
  (refine hx_plain rfl ?_; refine h_assign rfl rfl rfl rfl ?_; refine hx_nil ?_; refine hq_then ?_; refine hc_ret ?_)
  exact hq_ret1 (.inr rfl) rfl rfl rfl (fun _ h => h)

/-- The number that bytes are. -/
def numS (x c : Int) : Int := bits .or .u64 (IntKind.u64.wrap (x * 256)) (IntKind.u64.wrap c)
def numR (bs : List Int) : Int := bs.foldl numS 0
theorem numR_succ {bs : List Int} {i : Nat} (h : i < bs.length) : numR (bs.take (i + 1)) = numS (numR (bs.take i)) bs[i] := by
  rw [List.take_succ_eq_append_getElem h, numR, List.foldl_append]
  rfl
set_option maxHeartbeats 1000000 in
theorem number_reads {bs : List Int} {w : World} {v : Value} (h1 : Rd byteE w v bs) :
    Calls Tryd.prog 52 [v].toArray w (fun en w' => en = .returned (.int .u64 (numR bs)) ∧ But w w' nowhere) := by
  obtain ⟨a1, c1, rfl, l1, m1, k1⟩ := h1
  unfold maxLen at m1
  refine reads_of Tryd.func52 rfl rfl (Nat.le_of_ble_eq_true rfl) ?_
  (refine hc_seq ?_; refine hc_lex ?_; refine hx_plain rfl ?_; refine h_assign rfl rfl rfl rfl ?_; refine hx_nil ?_; refine hq_then ?_; refine hc_seq ?_; refine hc_lex ?_; refine hx_plain rfl ?_; refine h_assign rfl rfl rfl rfl ?_; refine hx_nil ?_; refine hq_then ?_; refine hc_seq ?_; refine hc_seq ?_; refine hc_lex ?_; refine hx_plain rfl ?_; refine h_move rfl rfl rfl rfl ?_; refine hx_plain rfl ?_; refine h_len_slice rfl rfl rfl UC.out rfl rfl rfl ?_; refine hx_plain rfl ?_; refine h_move rfl rfl rfl rfl ?_; refine hx_nil ?_; refine hq_then ?_; refine hc_block ?_)
  refine hc_cut (id := 0) (Y := Unit) (fun _ => [(3, .int .u64 (numR bs))]) (fun _ => []) (fun _ => True) ?_ ?_
  · refine hc_loop (X := Nat) (fun i => [(3, .int .u64 (numR (bs.take i))), (6, .slice a1 bs.length c1), (7, .int .i64 (bs.length : Int)), (8, .int .i64 (i : Int))]) (fun _ => []) (fun i => i ≤ bs.length) (fun i => bs.length - i) 0 (.cons rfl (.cons rfl (.cons rfl (.cons rfl .nil)))) (Nat.zero_le _) (fun _ h => h) ?_
    intro i hi
    by_cases hlt : i < bs.length
    · have hx : bs ≠ [] := by
        intro e
        rw [e] at hlt
        exact absurd hlt (Nat.not_lt_zero _)
      obtain ⟨g1, o1, rfl, r1⟩ := k1.resolve_left hx
      have e1 : bs[((i : Nat) : Int).toNat]? = some bs[i] := List.getElem?_eq_getElem hlt
      (refine hc_seq ?_; refine hc_lex ?_; refine hx_plain rfl ?_; refine h_cmp rfl rfl rfl rfl rfl rfl ?_; refine hx_nil ?_; refine hq_then ?_; refine hc_seq ?_; refine hc_condDT rfl (by omega) ?_; refine hc_skip ?_; refine hq_then ?_; refine hc_seq ?_; refine hc_block ?_; refine hc_seq ?_; refine hc_lex ?_; refine hx_plain rfl ?_; refine h_indexAddr rfl rfl rfl UC.out IC.size (by omega) (by omega) rfl rfl ?_; refine hx_plain rfl ?_; refine h_rdLoad1 rfl r1 rfl UC.out rfl (by with_reducible assumption) rfl rfl rfl ?_; refine hx_plain rfl ?_; refine h_assign rfl rfl rfl rfl ?_; refine hx_nil ?_; refine hq_then ?_; refine hc_lex ?_; refine hx_plain rfl ?_; refine h_move rfl rfl rfl rfl ?_; refine hx_plain rfl ?_; refine h_shlU rfl rfl rfl (by omega) rfl rfl ?_; refine hx_plain rfl ?_; refine h_move rfl rfl rfl rfl ?_; refine hx_plain rfl ?_; refine h_convInt rfl rfl UC.out UC.out rfl rfl ?_; refine hx_plain rfl ?_; refine h_bits rfl rfl rfl rfl rfl rfl ?_; refine hx_plain rfl ?_; refine h_assign rfl rfl rfl rfl ?_; refine hx_nil ?_; refine hq_norm_block ?_; refine hq_then ?_; refine hc_lex ?_; refine hx_plain rfl ?_; refine h_arithI rfl rfl rfl rfl (by omega) rfl rfl ?_; refine hx_plain rfl ?_; refine h_move rfl rfl rfl rfl ?_; refine hx_nil ?_)
      refine hq_round (i + 1) (by omega) (by omega) (.cons ?_ (.cons rfl (.cons rfl (.cons rfl .nil)))) (fun _ h => h)
      rw [numR_succ hlt]
      rfl
    · (refine hc_seq ?_; refine hc_lex ?_; refine hx_plain rfl ?_; refine h_cmp rfl rfl rfl rfl rfl rfl ?_; refine hx_nil ?_; refine hq_then ?_; refine hc_seq ?_; refine hc_condDF rfl (by omega) ?_; refine hc_exit ?_; refine hq_exit_then ?_; refine hq_exit_then ?_)
      refine hq_cut () trivial (.cons ?_ .nil) (fun _ h => h)
      rw [List.take_of_length_le (by omega)]
      rfl
  · rintro ⟨⟩ _
    (refine hq_exit_block ?_; refine hq_then ?_; refine hc_seq ?_; refine hc_lex ?_; refine hx_plain rfl ?_; refine h_move rfl rfl rfl rfl ?_; refine hx_plain rfl ?_; refine h_assign rfl rfl rfl rfl ?_; refine hx_nil ?_; refine hq_then ?_; refine hc_ret ?_)
    exact hq_ret1 (.inr rfl) rfl rfl ⟨rfl, rfl⟩ (fun _ h => h.emp)
end Go.Proofs.YtjnnlfeohbidhaaDoor
