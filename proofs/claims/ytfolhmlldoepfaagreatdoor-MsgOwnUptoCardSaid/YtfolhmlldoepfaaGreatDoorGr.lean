import Derived.Test.YtfolhmlldoepfaaGreatDoorGb
import Derived.Test.YtfolhmlldoepfaaGreatDoorGt
import Derived.Test.YtfolhmlldoepfaaGreatDoorGs
import Derived.Test.YtfolhmlldoepfaaGreatDoorGc
namespace Go.Proofs.YtfolhmlldoepfaaGreatDoor
open Go Go.Proofs
set_option maxRecDepth 4000
/-- The lowest m bytes of x, the highest first. -/
def dg (x : Int) : Nat → List Int
  | 0 => []
  | m + 1 => IntKind.u8.wrap (x / 2 ^ (8 * m)) :: dg x m
theorem dg_len (x : Int) : ∀ m, (dg x m).length = m
  | 0 => rfl
  | m + 1 => by rw [dg, List.length_cons, dg_len x m]
set_option maxHeartbeats 1000000 in
theorem lay_spec (v : Value) (bs : List Int) (x : Int) (m : Nat) (hl : bs.length ≤ 140737488355200) (hm : m ≤ 8) :
    Spec Tryz.prog 99 [v, .int .u64 x, .int .i64 (m : Int)] [RowV byteE 5 v bs] (fun u M => M = [RowV byteE 5 u (bs ++ dg x m)]) := by
  refine spec_of Tryz.func99 rfl rfl (Nat.le_of_ble_eq_true rfl) (fun w F => ?_)
  (refine Zx rfl rfl rfl rfl rfl ?_; refine hc_seq ?_; refine Zw rfl rfl rfl rfl rfl ?_; refine hx_plain rfl ?_; refine h_arithI rfl rfl rfl rfl (by omega) rfl rfl ?_; refine Zn rfl rfl rfl rfl rfl ?_; refine hc_block ?_)
  refine hc_cut (id := 0) (Y := Value) (fun v => [(0, v)]) (fun v => [RowV byteE 5 v (bs ++ dg x m)]) (fun _ => True) ?_ ?_
  · refine hc_loop (X := Nat × Value × List Int) (fun y => [(0, y.2.1), (1, .int .u64 x), (2, .int .i64 ((y.1 : Int) - 1))]) (fun y => [RowV byteE 5 y.2.1 y.2.2]) (fun y => y.1 ≤ 8 ∧ y.2.2 ++ dg x y.1 = bs ++ dg x m ∧ y.2.2.length ≤ 140737488355200 + 8) (fun y => y.1) (m, v, bs) (.cons rfl (.cons rfl (.cons rfl .nil))) ⟨hm, rfl, by show bs.length ≤ _; omega⟩ (fun _ h => h) ?_
    rintro ⟨j, v, cs⟩ ⟨hj, he, hc⟩
    dsimp only at hj he hc ⊢
    cases j with
    | zero =>
      (refine hc_seq ?_; refine Zw rfl rfl rfl rfl rfl ?_; refine Zc rfl rfl rfl rfl rfl rfl rfl ?_; refine Zt ?_; refine hc_condF rfl ?_; refine hc_exit ?_; (iterate 2 (refine hq_exit_then ?_)))
      refine hq_cut v trivial (.cons rfl .nil) (fun _ h => ?_)
      rw [dg, List.append_nil] at he
      rw [← he]
      exact h
    | succ j =>
      have hlen : cs.length < 140737488355200 + 8 := by
        have := congrArg List.length he
        simp only [List.length_append, dg_len] at this
        omega
      have e1 : (((j + 1 : Nat) : Int) - 1) = (j : Int) := by omega
      rw [e1]
      (refine hc_seq ?_; refine Zw rfl rfl rfl rfl rfl ?_; refine Zc rfl rfl rfl rfl rfl rfl rfl ?_; refine Zt ?_; refine hc_condT rfl ?_; refine hc_skip ?_; refine hq_then ?_; refine hc_seq ?_; refine hc_block ?_; refine hc_lex ?_; (iterate 3 (refine Zm rfl rfl rfl rfl rfl ?_)); refine hx_plain rfl ?_; refine h_arithI rfl rfl rfl rfl (by omega) rfl rfl ?_; refine hx_plain rfl ?_; refine h_shrU rfl rfl rfl (by omega) rfl rfl ?_; refine hx_plain rfl ?_; refine h_convInt rfl rfl UC.out UC.out rfl rfl ?_; refine hx_plain rfl ?_; (refine h_buildSlice rfl rfl rfl UC.out IC.size IC.zero rfl rfl (by intro v hv; simp at hv; first | (subst hv; rfl) | (rcases hv with rfl | rfl <;> rfl) | (rcases hv with rfl | rfl | rfl <;> rfl)) (by omega) rfl rfl (fun _ => ?_)); refine hx_plain rfl ?_)
      refine h_append (m := 1) (E := byteE) (T := 5) (xs := cs) (ys := [IntKind.u8.wrap (x / 2 ^ (8 * (j : Int)).toNat)]) rfl rfl rfl rfl rfl UC.out IC.out rfl (.cons (.tail .head) (.cons .head .nil)) rfl (one_row byteE _) (by unfold maxLen; omega) (by omega) rfl rfl (fun v' _ => ?_)
      (refine Za rfl rfl rfl rfl rfl ?_; refine hx_nil ?_; refine hq_norm_block ?_; refine hq_then ?_; refine hc_lex ?_; refine Zm rfl rfl rfl rfl rfl ?_; refine hx_plain rfl ?_; refine h_arithI rfl rfl rfl rfl (by omega) rfl rfl ?_; refine Za rfl rfl rfl rfl rfl ?_; refine hx_nil ?_)
      have e2 : (8 * (j : Int)).toNat = 8 * j := by omega
      refine hq_round (j, v', cs ++ [IntKind.u8.wrap (x / 2 ^ (8 * j))]) (by show j < j + 1; omega) ⟨by show j ≤ 8; omega, by show (cs ++ [_]) ++ dg x j = _; rw [← he, dg, List.append_assoc]; rfl, by show (cs ++ [_]).length ≤ _; rw [List.length_append, List.length_singleton]; omega⟩ (.cons rfl (.cons rfl (.cons rfl .nil))) (fun _ h => ?_)
      show St w F [RowV byteE 5 v' (cs ++ [IntKind.u8.wrap (x / 2 ^ (8 * j))])] _
      rw [← e2]
      exact h.sub (.cons .head .nil)
  · rintro v _
    (refine hq_exit_block ?_; refine hq_then ?_; refine Zw rfl rfl rfl rfl rfl ?_; refine Zn rfl rfl rfl rfl rfl ?_; refine hc_ret ?_)
    exact hq_ret1 (.inr rfl) rfl rfl rfl (fun _ h => h)
end Go.Proofs.YtfolhmlldoepfaaGreatDoor
namespace Go.Proofs.YtfolhmlldoepfaaGreatDoor
open Go Go.Proofs
set_option maxRecDepth 4000
theorem fresh_cut {bs : List Int} {z : Int} : bs.take (List.replicate bs.length z).length ++ (List.replicate bs.length z).drop bs.length = bs := by simp
set_option maxHeartbeats 1000000 in
theorem fresh_makes {bs : List Int} {w : World} {v : Value} (m : Nat) (h1 : Rd byteE w v bs) (hl : bs.length + m ≤ 140737488355328) :
    Makes Tryz.prog 100 [v, .int .i64 (m : Int)] w (fun u M => ∃ g, u = .slice (some ⟨g, 0, none⟩) bs.length (bs.length + m) ∧ M = [Row byteE 5 g (bs.length + m) bs]) := by
  obtain ⟨a1, c1, e1, l1, m1, k1⟩ := id h1
  subst e1
  refine makes_of Tryz.func100 rfl rfl (Nat.le_of_ble_eq_true rfl) ?_
  have e1 : (bs.length : Int) + (m : Int) = ((bs.length + m : Nat) : Int) := by omega
  (refine Zx rfl rfl rfl rfl rfl ?_; refine Zw rfl rfl rfl rfl rfl ?_; (iterate 2 (refine hx_plain rfl ?_; refine h_len_slice rfl rfl rfl UC.out rfl rfl rfl ?_; refine Zm rfl rfl rfl rfl rfl ?_)); refine hx_plain rfl ?_; refine h_arithI rfl rfl rfl rfl (by omega) rfl rfl ?_; refine hx_plain rfl ?_)
  rw [e1]
  refine h_makeSlice byteE (T := 5) (l := bs.length) (c := bs.length + m) (0 : Int) rfl rfl rfl rfl UC.out IC.out rfl (by omega) (by unfold maxLen; omega) (by omega) rfl rfl (fun g => ?_)
  (refine Zn rfl rfl rfl rfl rfl ?_; refine Zw rfl rfl rfl rfl rfl ?_; refine Zm rfl rfl rfl rfl rfl ?_; refine hx_plain rfl ?_)
  have e2 : (List.replicate bs.length (0 : Int)).length = bs.length := List.length_replicate
  refine h_copy (xs := List.replicate bs.length (0 : Int)) (ys := bs) rfl rfl rfl .head (by rw [e2]; rfl) rfl UC.out IC.size (fun w' h => h.rd h1) rfl rfl ?_
  rw [fresh_cut]
  (refine Zt ?_; refine Zw rfl rfl rfl rfl rfl ?_; refine Zn rfl rfl rfl rfl rfl ?_; refine hc_ret ?_)
  exact hq_ret1 (.inr rfl) rfl rfl ⟨g, rfl, rfl⟩ (fun _ h => h)
set_option maxHeartbeats 1000000 in
theorem put32_makes {bs : List Int} {w : World} {v : Value} (x : Int) (h1 : Rd byteE w v bs) (hl : bs.length ≤ 140737488355200) :
    Makes Tryz.prog 56 [v, .int .i64 x] w (fun u M => M = [RowV byteE 5 u (bs ++ dg (IntKind.u64.wrap x) 4)]) := by
  refine makes_of Tryz.func56 rfl rfl (Nat.le_of_ble_eq_true rfl) ?_
  (refine Zx rfl rfl rfl rfl rfl ?_; refine Zw rfl rfl rfl rfl rfl ?_; refine hx_plain rfl ?_)
  refine h_callW (post := fun u M => ∃ g, u = .slice (some ⟨g, 0, none⟩) bs.length (bs.length + 4) ∧ M = [Row byteE 5 g (bs.length + 4) bs]) rfl rfl rfl rfl rfl rfl rfl rfl EC.out (fun w' h => fresh_makes 4 (h.rd h1) (by omega)) ?_
  rintro u M ⟨g, rfl, rfl⟩
  (refine Zm rfl rfl rfl rfl rfl ?_; refine hx_plain rfl ?_; refine h_convInt rfl rfl UC.out UC.out rfl rfl ?_; refine hx_plain rfl ?_)
  refine hx1_conv rfl rfl (C' := St w nowhere [RowV byteE 5 (.slice (some ⟨g, 0, none⟩) bs.length (bs.length + 4)) bs]) (fun _ h => h.rowV_mk) ?_
  refine h_call rfl rfl rfl rfl rfl rfl rfl rfl EC.out (.cons .head .nil) (lay_spec _ bs (IntKind.u64.wrap x) 4 hl (by omega)) ?_
  rintro u M rfl
  (refine Zn rfl rfl rfl rfl rfl ?_; refine hc_ret ?_)
  exact hq_ret1 (.inr rfl) rfl rfl rfl (fun _ h => h)
set_option maxHeartbeats 1000000 in
theorem putSum_makes {bs : List Int} {w : World} {v : Value} (x : Int) (h1 : Rd byteE w v bs) (hl : bs.length ≤ 140737488355200) :
    Makes Tryz.prog 101 [v, .int .u64 x] w (fun u M => M = [RowV byteE 5 u (bs ++ dg x 8)]) := by
  refine makes_of Tryz.func101 rfl rfl (Nat.le_of_ble_eq_true rfl) ?_
  (refine Zx rfl rfl rfl rfl rfl ?_; refine Zw rfl rfl rfl rfl rfl ?_; refine hx_plain rfl ?_)
  refine h_callW (post := fun u M => ∃ g, u = .slice (some ⟨g, 0, none⟩) bs.length (bs.length + 8) ∧ M = [Row byteE 5 g (bs.length + 8) bs]) rfl rfl rfl rfl rfl rfl rfl rfl EC.out (fun w' h => fresh_makes 8 (h.rd h1) (by omega)) ?_
  rintro u M ⟨g, rfl, rfl⟩
  (refine Zm rfl rfl rfl rfl rfl ?_; refine hx_plain rfl ?_)
  refine hx1_conv rfl rfl (C' := St w nowhere [RowV byteE 5 (.slice (some ⟨g, 0, none⟩) bs.length (bs.length + 8)) bs]) (fun _ h => h.rowV_mk) ?_
  refine h_call rfl rfl rfl rfl rfl rfl rfl rfl EC.out (.cons .head .nil) (lay_spec _ bs x 8 hl (by omega)) ?_
  rintro u M rfl
  (refine Zn rfl rfl rfl rfl rfl ?_; refine hc_ret ?_)
  exact hq_ret1 (.inr rfl) rfl rfl rfl (fun _ h => h)
/-- The number that bytes are. -/
def numS (x c : Int) : Int := bits .or .u64 (IntKind.u64.wrap (x * 256)) (IntKind.u64.wrap c)
def numR (bs : List Int) : Int := bs.foldl numS 0
theorem numR_succ {bs : List Int} {i : Nat} (h : i < bs.length) : numR (bs.take (i + 1)) = numS (numR (bs.take i)) bs[i] := by
  rw [List.take_succ_eq_append_getElem h, numR, List.foldl_append]
  rfl
set_option maxHeartbeats 1000000 in
theorem number_reads {bs : List Int} {w : World} {v : Value} (h1 : Rd byteE w v bs) :
    Calls Tryz.prog 113 [v].toArray w (fun en w' => en = .returned (.int .u64 (numR bs)) ∧ But w w' nowhere) := by
  obtain ⟨a1, c1, rfl, l1, m1, k1⟩ := h1
  unfold maxLen at m1
  refine reads_of Tryz.func113 rfl rfl (Nat.le_of_ble_eq_true rfl) ?_
  ((iterate 2 (refine Zx rfl rfl rfl rfl rfl ?_)); refine hc_seq ?_; refine Zw rfl rfl rfl rfl rfl ?_; refine hx_plain rfl ?_; refine h_len_slice rfl rfl rfl UC.out rfl rfl rfl ?_; refine Zm rfl rfl rfl rfl rfl ?_; refine Zt ?_; refine hc_block ?_)
  refine hc_cut (id := 0) (Y := Unit) (fun _ => [(3, .int .u64 (numR bs))]) (fun _ => []) (fun _ => True) ?_ ?_
  · refine hc_loop (X := Nat) (fun i => [(3, .int .u64 (numR (bs.take i))), (6, .slice a1 bs.length c1), (7, .int .i64 (bs.length : Int)), (8, .int .i64 (i : Int))]) (fun _ => []) (fun i => i ≤ bs.length) (fun i => bs.length - i) 0 (.cons rfl (.cons rfl (.cons rfl (.cons rfl .nil)))) (Nat.zero_le _) (fun _ h => h) ?_
    intro i hi
    by_cases hlt : i < bs.length
    · have hx : bs ≠ [] := by
        intro e
        rw [e] at hlt
        exact absurd hlt (Nat.not_lt_zero _)
      obtain ⟨g1, o1, rfl, r1⟩ := k1.resolve_left hx
      have e1 : bs[((i : Nat) : Int).toNat]? = some bs[i] := List.getElem?_eq_getElem hlt
      (refine Zl rfl ?_; refine h_cmp rfl rfl rfl rfl rfl rfl ?_; refine Zt ?_; refine hc_seq ?_; refine hc_condDT rfl (by omega) ?_; refine hc_skip ?_; refine hq_then ?_; refine hc_seq ?_; refine hc_block ?_; refine Zl rfl ?_; refine h_indexAddr rfl rfl rfl UC.out IC.size (by omega) (by omega) rfl rfl ?_; refine hx_plain rfl ?_; refine h_rdLoad1 rfl r1 rfl UC.out rfl (by with_reducible assumption) rfl rfl rfl ?_; refine Zn rfl rfl rfl rfl rfl ?_; refine hc_lex ?_; refine Zm rfl rfl rfl rfl rfl ?_; refine hx_plain rfl ?_; refine h_shlU rfl rfl rfl (by omega) rfl rfl ?_; refine Zm rfl rfl rfl rfl rfl ?_; refine hx_plain rfl ?_; refine h_convInt rfl rfl UC.out UC.out rfl rfl ?_; refine hx_plain rfl ?_; refine h_bits rfl rfl rfl rfl rfl rfl ?_; refine Za rfl rfl rfl rfl rfl ?_; refine hx_nil ?_; refine hq_norm_block ?_; refine hq_then ?_; refine hc_lex ?_; refine hx_plain rfl ?_; refine h_arithI rfl rfl rfl rfl (by omega) rfl rfl ?_; refine Zm rfl rfl rfl rfl rfl ?_; refine hx_nil ?_)
      refine hq_round (i + 1) (by omega) (by omega) (.cons ?_ (.cons rfl (.cons rfl (.cons rfl .nil)))) (fun _ h => h)
      rw [numR_succ hlt]
      rfl
    · (refine Zl rfl ?_; refine h_cmp rfl rfl rfl rfl rfl rfl ?_; refine Zt ?_; refine hc_seq ?_; refine hc_condDF rfl (by omega) ?_; refine hc_exit ?_; (iterate 2 (refine hq_exit_then ?_)))
      refine hq_cut () trivial (.cons ?_ .nil) (fun _ h => h)
      rw [List.take_of_length_le (by omega)]
      rfl
  · rintro ⟨⟩ _
    (refine hq_exit_block ?_; refine hq_then ?_; refine Zw rfl rfl rfl rfl rfl ?_; refine Zn rfl rfl rfl rfl rfl ?_; refine hc_ret ?_)
    exact hq_ret1 (.inr rfl) rfl rfl ⟨rfl, rfl⟩ (fun _ h => h.emp)
end Go.Proofs.YtfolhmlldoepfaaGreatDoor
namespace Go.Proofs.YtfolhmlldoepfaaGreatDoor
open Go Go.Proofs
set_option maxRecDepth 4000
def stepS (h x : Int) : Int := IntKind.u64.wrap (bits .xor .u64 h (IntKind.u64.wrap x) * 1099511628211)
def sumR (h : Int) (bs : List Int) : Int := bs.foldl stepS h
abbrev off0 : Int := 14695981039346656037
theorem sumR_succ {h : Int} {bs : List Int} {i : Nat} (hi : i < bs.length) : sumR h (bs.take (i + 1)) = stepS (sumR h (bs.take i)) bs[i] := by
  rw [List.take_succ_eq_append_getElem hi, sumR, List.foldl_append]
  rfl
theorem step_spec (h x : Int) : Spec0 Tryz.prog 133 [.int .u64 h, .int .u8 x] (.int .u64 (stepS h x)) := by
  refine spec_of Tryz.func133 rfl rfl (Nat.le_of_ble_eq_true rfl) (fun w F => ?_)
  (refine Zx rfl rfl rfl rfl rfl ?_; refine Zw rfl rfl rfl rfl rfl ?_; refine Zm rfl rfl rfl rfl rfl ?_; refine hx_plain rfl ?_; refine h_convInt rfl rfl UC.out UC.out rfl rfl ?_; refine hx_plain rfl ?_; refine h_bits rfl rfl rfl rfl rfl rfl ?_; refine hx_plain rfl ?_; refine h_arith rfl rfl rfl rfl rfl rfl ?_; refine Zn rfl rfl rfl rfl rfl ?_; refine hc_ret ?_)
  exact hq_ret1 (.inr rfl) rfl rfl ⟨rfl, rfl⟩ (fun _ h => h.emp)
set_option maxHeartbeats 1000000 in
theorem more_reads {bs : List Int} {w : World} {v : Value} (h : Int) (h1 : Rd byteE w v bs) :
    Calls Tryz.prog 108 [.int .u64 h, v].toArray w (fun en w' => en = .returned (.int .u64 (sumR h bs)) ∧ But w w' nowhere) := by
  obtain ⟨a1, c1, rfl, l1, m1, k1⟩ := h1
  unfold maxLen at m1
  refine reads_of Tryz.func108 rfl rfl (Nat.le_of_ble_eq_true rfl) ?_
  (refine Zx rfl rfl rfl rfl rfl ?_; refine hc_seq ?_; refine Zw rfl rfl rfl rfl rfl ?_; refine hx_plain rfl ?_; refine h_len_slice rfl rfl rfl UC.out rfl rfl rfl ?_; refine Zm rfl rfl rfl rfl rfl ?_; refine Zt ?_; refine hc_block ?_)
  refine hc_cut (id := 0) (Y := Unit) (fun _ => [(0, .int .u64 (sumR h bs))]) (fun _ => []) (fun _ => True) ?_ ?_
  · refine hc_loop (X := Nat) (fun i => [(0, .int .u64 (sumR h (bs.take i))), (7, .slice a1 bs.length c1), (8, .int .i64 (bs.length : Int)), (9, .int .i64 (i : Int))]) (fun _ => []) (fun i => i ≤ bs.length) (fun i => bs.length - i) 0 (.cons rfl (.cons rfl (.cons rfl (.cons rfl .nil)))) (Nat.zero_le _) (fun _ h => h) ?_
    intro i hi
    by_cases hlt : i < bs.length
    · have hx : bs ≠ [] := by
        intro e
        rw [e] at hlt
        exact absurd hlt (Nat.not_lt_zero _)
      obtain ⟨g1, o1, rfl, r1⟩ := k1.resolve_left hx
      have e1 : bs[((i : Nat) : Int).toNat]? = some bs[i] := List.getElem?_eq_getElem hlt
      (refine Zl rfl ?_; refine h_cmp rfl rfl rfl rfl rfl rfl ?_; refine Zt ?_; refine hc_seq ?_; refine hc_condDT rfl (by omega) ?_; refine hc_skip ?_; refine hq_then ?_; refine hc_seq ?_; refine hc_block ?_; refine Zl rfl ?_; refine h_indexAddr rfl rfl rfl UC.out IC.size (by omega) (by omega) rfl rfl ?_; refine hx_plain rfl ?_; refine h_rdLoad1 rfl r1 rfl UC.out rfl (by with_reducible assumption) rfl rfl rfl ?_; refine Zn rfl rfl rfl rfl rfl ?_; refine hc_lex ?_; (iterate 2 (refine Zm rfl rfl rfl rfl rfl ?_)); refine hx_plain rfl ?_)
      refine h_callR rfl rfl rfl rfl rfl rfl EC.out ((step_spec (sumR h (bs.take i)) bs[i]).reads _) ?_
      (refine Za rfl rfl rfl rfl rfl ?_; refine hx_nil ?_; refine hq_norm_block ?_; refine hq_then ?_; refine hc_lex ?_; refine hx_plain rfl ?_; refine h_arithI rfl rfl rfl rfl (by omega) rfl rfl ?_; refine Zm rfl rfl rfl rfl rfl ?_; refine hx_nil ?_)
      refine hq_round (i + 1) (by omega) (by omega) (.cons ?_ (.cons rfl (.cons rfl (.cons rfl .nil)))) (fun _ h => h)
      rw [sumR_succ hlt]
      rfl
    · (refine Zl rfl ?_; refine h_cmp rfl rfl rfl rfl rfl rfl ?_; refine Zt ?_; refine hc_seq ?_; refine hc_condDF rfl (by omega) ?_; refine hc_exit ?_; (iterate 2 (refine hq_exit_then ?_)))
      refine hq_cut () trivial (.cons ?_ .nil) (fun _ h => h)
      rw [List.take_of_length_le (by omega)]
      rfl
  · rintro ⟨⟩ _
    (refine hq_exit_block ?_; refine hq_then ?_; refine Zw rfl rfl rfl rfl rfl ?_; refine Zn rfl rfl rfl rfl rfl ?_; refine hc_ret ?_)
    exact hq_ret1 (.inr rfl) rfl rfl ⟨rfl, rfl⟩ (fun _ h => h.emp)
theorem sum_reads {bs : List Int} {w : World} {v : Value} (h1 : Rd byteE w v bs) :
    Calls Tryz.prog 62 [v].toArray w (fun en w' => en = .returned (.int .u64 (sumR off0 bs)) ∧ But w w' nowhere) := by
  refine reads_of Tryz.func62 rfl rfl (Nat.le_of_ble_eq_true rfl) ?_
  (refine Zx rfl rfl rfl rfl rfl ?_; refine Zw rfl rfl rfl rfl rfl ?_; refine hx_plain rfl ?_)
  refine h_callRd rfl rfl rfl rfl rfl rfl EC.out (fun w' h => more_reads off0 (h.rd h1)) ?_
  (refine Zn rfl rfl rfl rfl rfl ?_; refine hc_ret ?_)
  exact hq_ret1 (.inr rfl) rfl rfl ⟨rfl, rfl⟩ (fun _ h => h.emp)
end Go.Proofs.YtfolhmlldoepfaaGreatDoor
namespace Go.Proofs.YtfolhmlldoepfaaGreatDoor
open Go
def Byts (bs : List Int) : Prop := ∀ x ∈ bs, 0 ≤ x ∧ x ≤ 255
theorem wrapU_in {x : Int} (h : 0 ≤ x ∧ x < 18446744073709551616) : IntKind.u64.wrap x = x := by
  simp only [IntKind.wrap, IntKind.signed, IntKind.bits]
  simp
  omega
theorem wrapU_eq (x : Int) : IntKind.u64.wrap x = x % 18446744073709551616 := by
  simp only [IntKind.wrap, IntKind.signed, IntKind.bits]
  simp
theorem wrap8_eq (x : Int) : IntKind.u8.wrap x = x % 256 := by
  simp only [IntKind.wrap, IntKind.signed, IntKind.bits]
  simp
theorem bits_or_low {x c : Int} (hx : 0 ≤ x ∧ x < 72057594037927936) (hc : 0 ≤ c ∧ c ≤ 255) : bits .or .u64 (x * 256) c = x * 256 + c := by
  obtain ⟨a, rfl⟩ := Int.eq_ofNat_of_zero_le hx.1
  obtain ⟨b, rfl⟩ := Int.eq_ofNat_of_zero_le hc.1
  have h1 : ((a : Int) * 256) = ((a * 256 : Nat) : Int) := by omega
  rw [h1]
  unfold bits
  dsimp only
  have e1 : (BitVec.ofInt IntKind.u64.bits ((a * 256 : Nat) : Int) ||| BitVec.ofInt IntKind.u64.bits ((b : Nat) : Int)).toNat = a * 256 + b := by
    have hb64 : IntKind.u64.bits = 64 := rfl
    rw [hb64, BitVec.toNat_or]
    simp only [BitVec.toNat_ofInt]
    have m1 : (((a * 256 : Nat) : Int) % ((2 ^ 64 : Nat) : Int)).toNat = a * 256 := by omega
    have m2 : (((b : Nat) : Int) % ((2 ^ 64 : Nat) : Int)).toNat = b := by omega
    rw [m1, m2]
    have := Nat.shiftLeft_add_eq_or_of_lt (b := b) (i := 8) (by omega) a
    rw [Nat.shiftLeft_eq] at this
    exact this.symm
  rw [e1, wrapU_in (by omega)]
  omega
theorem numS_eq {x c : Int} (hx : 0 ≤ x ∧ x < 72057594037927936) (hc : 0 ≤ c ∧ c ≤ 255) : numS x c = x * 256 + c := by
  unfold numS
  rw [wrapU_in (by omega), wrapU_in (by omega), bits_or_low hx hc]
def numP (x : Int) (bs : List Int) : Int := bs.foldl (fun x c => x * 256 + c) x
theorem pow256_le {i j : Nat} (h : i ≤ j) : (256 : Int) ^ i ≤ 256 ^ j := by
  obtain ⟨d, rfl⟩ := Nat.exists_eq_add_of_le h
  rw [Int.pow_add]
  have : (1 : Int) ≤ 256 ^ d := by
    induction d with
    | zero => simp
    | succ d ih => rw [Int.pow_succ]; have := ih (by omega); omega
  have h2 : (0 : Int) ≤ 256 ^ i := Int.pow_nonneg (by decide)
  have h3 := Int.mul_le_mul_of_nonneg_left this h2
  rwa [Int.mul_one] at h3
theorem num_fold : ∀ (bs : List Int) (x : Int) (j : Nat), Byts bs → j + bs.length ≤ 8 → 0 ≤ x → x < 256 ^ j → bs.foldl numS x = numP x bs ∧ 0 ≤ numP x bs ∧ numP x bs < 256 ^ (j + bs.length)
  | [], x, j, _, _, h0, h1 => ⟨rfl, h0, h1⟩
  | c :: bs, x, j, hb, hj, h0, h1 => by
    simp only [List.length_cons] at hj
    have hc := hb c (List.mem_cons_self ..)
    have h7 : x < 256 ^ 7 := by
      have := pow256_le (show j ≤ 7 by omega)
      omega
    have h7' : (256 : Int) ^ 7 = 72057594037927936 := by decide
    have he := numS_eq (x := x) (c := c) ⟨h0, by omega⟩ hc
    have hlt : x * 256 + c < 256 ^ (j + 1) := by
      rw [Int.pow_succ]
      omega
    obtain ⟨g1, g2, g3⟩ := num_fold bs (x * 256 + c) (j + 1) (fun y hy => hb y (List.mem_cons_of_mem _ hy)) (by omega) (by omega) hlt
    refine ⟨?_, g2, ?_⟩
    · rw [List.foldl_cons, he, g1]
      rfl
    · rw [show j + (c :: bs).length = j + 1 + bs.length by rw [List.length_cons]; omega]
      exact g3
theorem numR_eq {bs : List Int} (hb : Byts bs) (hl : bs.length ≤ 8) : numR bs = numP 0 bs ∧ 0 ≤ numP 0 bs ∧ numP 0 bs < 256 ^ bs.length := by
  have := num_fold bs 0 0 hb (by omega) (by decide) (by decide)
  rw [Nat.zero_add] at this
  exact this
theorem dg_byts (x : Int) : ∀ m, Byts (dg x m)
  | 0 => fun y hy => by cases hy
  | m + 1 => fun y hy => by
    rcases List.mem_cons.1 hy with rfl | hy
    · rw [wrap8_eq]; omega
    · exact dg_byts x m y hy
theorem numP_dg (x : Int) : ∀ (m : Nat) (y : Int), numP y (dg x m) = y * 256 ^ m + x % 256 ^ m
  | 0, y => by simp [numP, dg, Int.emod_one]
  | m + 1, y => by
    have ih := numP_dg x m (y * 256 + x / 2 ^ (8 * m) % 256)
    show numP (y * 256 + IntKind.u8.wrap (x / 2 ^ (8 * m))) (dg x m) = _
    rw [wrap8_eq, ih]
    have e1 : (2 : Int) ^ (8 * m) = 256 ^ m := by
      rw [Int.pow_mul]
      rfl
    rw [e1, Int.pow_succ]
    have hp : (0 : Int) < 256 ^ m := Int.pow_pos (by decide)
    have h1 := Int.mul_ediv_add_emod x (256 ^ m)
    have h2 : x % (256 ^ m * 256) = 256 ^ m * (x / 256 ^ m % 256) + x % 256 ^ m := by
      have h3 := Int.mul_ediv_add_emod (x / 256 ^ m) 256
      have h4 : x = 256 ^ m * 256 * (x / 256 ^ m / 256) + (256 ^ m * (x / 256 ^ m % 256) + x % 256 ^ m) := by
        have key : ∀ p Q q1 q0 r : Int, p * Q + r = x → 256 * q1 + q0 = Q → x = p * 256 * q1 + (p * q0 + r) := by
          intro p Q q1 q0 r e1 e2
          rw [← e1, ← e2, Int.mul_add, ← Int.mul_assoc, Int.add_assoc]
        exact key _ _ _ _ _ h1 h3
      have hr0 : 0 ≤ x % 256 ^ m := Int.emod_nonneg _ (by omega)
      have hr1 : x % 256 ^ m < 256 ^ m := Int.emod_lt_of_pos _ hp
      have hq0 : 0 ≤ x / 256 ^ m % 256 := Int.emod_nonneg _ (by decide)
      have hq1 : x / 256 ^ m % 256 < 256 := Int.emod_lt_of_pos _ (by decide)
      have hlow : 0 ≤ 256 ^ m * (x / 256 ^ m % 256) + x % 256 ^ m := by
        have := Int.mul_nonneg (Int.le_of_lt hp) hq0
        omega
      have hhigh : 256 ^ m * (x / 256 ^ m % 256) + x % 256 ^ m < 256 ^ m * 256 := by
        have h5 : 256 ^ m * (x / 256 ^ m % 256) ≤ 256 ^ m * 255 := Int.mul_le_mul_of_nonneg_left (by omega) (Int.le_of_lt hp)
        have h6 : (256 : Int) ^ m * 256 = 256 ^ m * 255 + 256 ^ m := by rw [show (256 : Int) = 255 + 1 by rfl, Int.mul_add, Int.mul_one]
        omega
      have h7 := Int.add_mul_emod_self_left (256 ^ m * (x / 256 ^ m % 256) + x % 256 ^ m) (256 ^ m * 256) (x / 256 ^ m / 256)
      rw [Int.emod_eq_of_lt hlow hhigh] at h7
      rw [← h7, Int.add_comm, ← h4]
    rw [h2]
    rw [Int.add_mul, Int.mul_assoc y 256 _, Int.mul_comm 256 (256 ^ m), Int.mul_comm (x / 256 ^ m % 256) (256 ^ m), Int.add_assoc]
/-- What was laid is read back, modulo 256 to the m. -/
theorem numR_dg (x : Int) {m : Nat} (hm : m ≤ 8) : numR (dg x m) = x % 256 ^ m := by
  rw [(numR_eq (dg_byts x m) (by rw [dg_len]; exact hm)).1, numP_dg]
  simp
end Go.Proofs.YtfolhmlldoepfaaGreatDoor
namespace Go.Proofs.YtfolhmlldoepfaaGreatDoor
open Go Go.Proofs
set_option maxRecDepth 4000
/-- Its bytes, its place, the place of the call under way, its error. -/
def rdrB (p : Nat) (v : Value) (at_ nx er : Int) : Asn := Blk p (.cells #[v, .int .i64 at_, .int .i64 nx, .int .i64 er] 165)
def RdrO (p : Nat) (bs : List Int) (at_ nx er : Int) : Asn := Ex fun x : Nat × Nat => All [rdrB p (.slice (some ⟨x.1, 0, none⟩) bs.length x.2) at_ nx er, Row byteE 5 x.1 x.2 bs]
theorem RdrO_open {p : Nat} {bs : List Int} {at_ nx er : Int} (w w0 : World) (F0 : Nat → Prop) (R : List Asn) (h : St w0 F0 (RdrO p bs at_ nx er :: R) w) : ∃ x : Nat × Nat, St w0 F0 ([rdrB p (.slice (some ⟨x.1, 0, none⟩) bs.length x.2) at_ nx er, Row byteE 5 x.1 x.2 bs] ++ R) w := by
  obtain ⟨x, hx⟩ := St.ex.1 h
  exact ⟨x, St.all.1 hx⟩
theorem RdrO_shut {p g c : Nat} {bs : List Int} {at_ nx er : Int} {w w0 : World} {F0 : Nat → Prop} {R : List Asn} (h : St w0 F0 (rdrB p (.slice (some ⟨g, 0, none⟩) bs.length c) at_ nx er :: Row byteE 5 g c bs :: R) w) : St w0 F0 (RdrO p bs at_ nx er :: R) w :=
  St.ex.2 ⟨(g, c), St.all.2 h⟩
set_option maxHeartbeats 1000000 in
theorem newReader_makes {bs : List Int} {w : World} {v : Value} (h1 : Rd byteE w v bs) (hl : bs.length ≤ 140737488355200) :
    Makes Tryz.prog 109 [v] w (fun u M => ∃ p, u = .pointer (some ⟨p, 0, none⟩) ∧ M = [RdrO p bs 0 0 0]) := by
  refine makes_of Tryz.func109 rfl rfl (Nat.le_of_ble_eq_true rfl) ?_
  (refine Zx rfl rfl rfl rfl rfl ?_; refine Zw rfl rfl rfl rfl rfl ?_; refine hx_plain rfl ?_)
  refine h_callW (post := fun u M => ∃ g, u = .slice (some ⟨g, 0, none⟩) bs.length (bs.length + 0) ∧ M = [Row byteE 5 g (bs.length + 0) bs]) rfl rfl rfl rfl rfl rfl rfl rfl EC.out (fun w' h => fresh_makes 0 (h.rd h1) (by omega)) ?_
  rintro u M ⟨g, rfl, rfl⟩
  (refine hx_plain rfl ?_; refine h_build rfl inferInstance rfl rfl rfl rfl ?_; refine hx_plain rfl ?_; (refine h_box rfl rfl rfl rfl rfl rfl (fun _ => ?_)); refine Zn rfl rfl rfl rfl rfl ?_; refine hc_ret ?_)
  rename_i p
  exact hq_ret1 (.inr rfl) rfl rfl ⟨p, rfl, rfl⟩ (fun _ h => RdrO_shut h)
theorem begin_spec (p : Nat) (v : Value) (at_ nx er : Int) :
    Spec Tryz.prog 112 [.pointer (some ⟨p, 0, none⟩)] [rdrB p v at_ nx er] (fun u M => u = .bool (decide (er = 0)) ∧ M = [rdrB p v at_ at_ er]) := by
  refine spec_of Tryz.func112 rfl rfl (Nat.le_of_ble_eq_true rfl) (fun w F => ?_)
  unfold rdrB
  (refine Zx rfl rfl rfl rfl rfl ?_; refine Zw rfl rfl rfl rfl rfl ?_; refine Zm rfl rfl rfl rfl rfl ?_; refine hx_plain rfl ?_; refine h_nilCheck rfl rfl rfl rfl ?_; refine Zf rfl rfl rfl rfl rfl ?_; refine Zh rfl rfl rfl rfl rfl rfl rfl ?_; refine hx_plain rfl ?_; refine h_nilCheck rfl rfl rfl rfl ?_; refine Zf rfl rfl rfl rfl rfl ?_; refine hx_plain rfl ?_; refine h_store rfl rfl rfl rfl rfl rfl IC.size .head rfl rfl (Nat.le_of_ble_eq_true rfl) (List.all_eq_true.1 rfl) ?_; refine Zt ?_; refine Zw rfl rfl rfl rfl rfl ?_; refine hx_plain rfl ?_; refine h_nilCheck rfl rfl rfl rfl ?_; refine Zf rfl rfl rfl rfl rfl ?_; refine Zh rfl rfl rfl rfl rfl rfl rfl ?_; refine Zc rfl rfl rfl rfl rfl rfl rfl ?_; refine Zn rfl rfl rfl rfl rfl ?_; refine hc_ret ?_)
  exact hq_ret1 (.inr rfl) rfl rfl ⟨rfl, rfl⟩ (fun _ h => h)
theorem give_true (e : Int) : Spec0 Tryz.prog 115 [.bool true, .int .i64 e] (.tuple #[]) := by
  refine spec_of Tryz.func115 rfl rfl (Nat.le_of_ble_eq_true rfl) (fun w F => ?_)
  (refine Zw rfl rfl rfl rfl rfl ?_; refine hx_plain rfl ?_; refine h_not rfl rfl rfl rfl ?_; refine Zt ?_; refine hc_condF rfl ?_; refine hc_skip ?_)
  exact hq_ret0 (.inl rfl) rfl ⟨rfl, rfl⟩ (fun _ h => h.emp)
end Go.Proofs.YtfolhmlldoepfaaGreatDoor
namespace Go.Proofs.YtfolhmlldoepfaaGreatDoor
open Go Go.Proofs
set_option maxRecDepth 4000
/-- The part of a reader's array from the place i on, n bytes. -/
def subV (g c i n : Nat) : Value := .slice (some ⟨g, if c = i then 0 else 0 + i * 1, none⟩) n (c - i)
theorem St.rdSub {g c i n : Nat} {bs : List Int} {w0 : World} {F0 : Nat → Prop} {L L' : List Asn} {w : World} (h : St w0 F0 L w) (hp : Pull L (Row byteE 5 g c bs) L') (hi : i + n ≤ bs.length) : Rd byteE w (subV g c i n) ((bs.drop i).take n) := by
  have h1 := (h.rdRow hp).sub (i := i) (j := i + n) (by omega) hi
  rw [show i + n - i = n by omega] at h1
  exact h1
set_option maxHeartbeats 1000000 in
theorem take_spec (p g c : Nat) (bs : List Int) (at_ er : Int) (nx n : Nat) (hn : nx + n ≤ bs.length) (hc : bs.length ≤ c) (hl : bs.length ≤ 140737488355200) :
    Spec Tryz.prog 114 [.pointer (some ⟨p, 0, none⟩), .int .i64 (n : Int)] [rdrB p (.slice (some ⟨g, 0, none⟩) bs.length c) at_ (nx : Int) er, Row byteE 5 g c bs]
      (fun u M => u = subV g c nx n ∧ M = [rdrB p (.slice (some ⟨g, 0, none⟩) bs.length c) at_ ((nx : Int) + (n : Int)) er, Row byteE 5 g c bs]) := by
  refine spec_of Tryz.func114 rfl rfl (Nat.le_of_ble_eq_true rfl) (fun w F => ?_)
  unfold rdrB
  (refine Zx rfl rfl rfl rfl rfl ?_; refine hc_seq ?_; refine hc_draw0 (by kernel_rfl) (by kernel_rfl) ?_; (iterate 2 (refine Zm rfl rfl rfl rfl rfl ?_)); refine hx_plain rfl ?_; refine h_nilCheck rfl rfl rfl rfl ?_; refine Zf rfl rfl rfl rfl rfl ?_; refine Zh rfl rfl rfl rfl rfl rfl rfl ?_; refine hx_plain rfl ?_; refine h_len_slice rfl rfl rfl UC.out rfl rfl rfl ?_; refine Zm rfl rfl rfl rfl rfl ?_; refine hx_plain rfl ?_; refine h_nilCheck rfl rfl rfl rfl ?_; refine Zf rfl rfl rfl rfl rfl ?_; refine Zh rfl rfl rfl rfl rfl rfl rfl ?_; refine hx_plain rfl ?_; refine h_arithI rfl rfl rfl rfl (by omega) rfl rfl ?_; refine Zc rfl rfl rfl rfl rfl rfl rfl ?_; refine hx_plain rfl ?_)
  rw [decide_eq_true (show (n : Int) ≤ (bs.length : Int) - (nx : Int) by omega)]
  refine h_callR rfl rfl rfl rfl rfl rfl EC.out ((give_true 11).reads _) ?_
  (refine Zt ?_; refine hc_seq ?_; refine hc_draw0 (by kernel_rfl) (by kernel_rfl) ?_; (iterate 3 (refine Zm rfl rfl rfl rfl rfl ?_; refine hx_plain rfl ?_; refine h_nilCheck rfl rfl rfl rfl ?_; refine Zf rfl rfl rfl rfl rfl ?_; refine Zh rfl rfl rfl rfl rfl rfl rfl ?_)); refine Zm rfl rfl rfl rfl rfl ?_; refine hx_plain rfl ?_; refine h_arithI rfl rfl rfl rfl (by omega) rfl rfl ?_; refine hx_plain rfl ?_)
  have e1 : (nx : Int) + (n : Int) = ((nx + n : Nat) : Int) := by omega
  rw [e1]
  refine h_cut nx (nx + n) rfl rfl rfl rfl UC.out IC.size (by omega) rfl rfl ?_
  rw [show nx + n - nx = n by omega, ← e1]
  (refine Zn rfl rfl rfl rfl rfl ?_; refine Zw rfl rfl rfl rfl rfl ?_; refine hx_plain rfl ?_; refine h_nilCheck rfl rfl rfl rfl ?_; refine Zf rfl rfl rfl rfl rfl ?_; refine Zh rfl rfl rfl rfl rfl rfl rfl ?_; refine Zm rfl rfl rfl rfl rfl ?_; refine hx_plain rfl ?_; refine h_arithI rfl rfl rfl rfl (by omega) rfl rfl ?_; refine hx_plain rfl ?_; refine h_nilCheck rfl rfl rfl rfl ?_; refine Zf rfl rfl rfl rfl rfl ?_; refine hx_plain rfl ?_; refine h_store rfl rfl rfl rfl rfl rfl IC.size .head rfl rfl (Nat.le_of_ble_eq_true rfl) (List.all_eq_true.1 rfl) ?_; refine Zt ?_; refine Zw rfl rfl rfl rfl rfl ?_; refine Zn rfl rfl rfl rfl rfl ?_; refine hc_ret ?_)
  exact hq_ret1 (.inr rfl) rfl rfl ⟨rfl, rfl⟩ (fun _ h => h)
/-- The end of a call that has not given up. -/
theorem end_spec (p : Nat) (v : Value) (at_ nx : Int) :
    SpecD Tryz.prog 111 [.pointer (some ⟨p, 0, none⟩)] [rdrB p v at_ nx 0] (fun u M => u = .tuple #[] ∧ M = [rdrB p v nx nx 0]) := by
  refine specD_recover Tryz.func111 rfl rfl (Nat.le_of_ble_eq_true rfl) rfl rfl rfl rfl (fun w F => ?_)
  unfold rdrB
  (refine hc_block ?_; refine Zl rfl ?_)
  refine h_eqIface rfl rfl UC.out rfl rfl ?_
  (refine Zt ?_; refine hc_condT rfl ?_; refine Zx rfl rfl rfl rfl rfl ?_; refine Zw rfl rfl rfl rfl rfl ?_; refine hx_plain rfl ?_; refine h_nilCheck rfl rfl rfl rfl ?_; refine Zf rfl rfl rfl rfl rfl ?_; refine Zh rfl rfl rfl rfl rfl rfl rfl ?_; refine Zc rfl rfl rfl rfl rfl rfl rfl ?_; refine Zt ?_; refine hc_condT rfl ?_; refine hc_lex ?_; (iterate 2 (refine Zm rfl rfl rfl rfl rfl ?_)); refine hx_plain rfl ?_; refine h_nilCheck rfl rfl rfl rfl ?_; refine Zf rfl rfl rfl rfl rfl ?_; refine Zh rfl rfl rfl rfl rfl rfl rfl ?_; refine hx_plain rfl ?_; refine h_nilCheck rfl rfl rfl rfl ?_; refine Zf rfl rfl rfl rfl rfl ?_; refine hx_plain rfl ?_; refine h_store rfl rfl rfl rfl rfl rfl IC.size .head rfl rfl (Nat.le_of_ble_eq_true rfl) (List.all_eq_true.1 rfl) ?_; refine hx_nil ?_; refine hq_norm_block ?_)
  exact hq_ret0 (.inl rfl) rfl ⟨rfl, rfl⟩ (fun _ h => h)
end Go.Proofs.YtfolhmlldoepfaaGreatDoor
namespace Go.Proofs.YtfolhmlldoepfaaGreatDoor
open Go Go.Proofs Go.RowKit
set_option maxRecDepth 4000
abbrev pan (e : Int) : List PanicEntry := [{ v := trb e, recovered := false }]
theorem ta_err (v : Value) (w : World) : (Instr.typeAssert (.iface 185 v) 20 183 true).run Tryz.prog w = .ok (.tuple #[.iface 185 v, .bool true]) w := run_typeAssert_hasB Tryz.underlying183 (by kernel_rfl) v _ w
/-- give, where it gives up. -/
theorem give_panic {b : Bool} (e : Int) (hb : b = false) : SpecP Tryz.prog 115 [.bool b, .int .i64 e] [] (fun ch M => ch = pan e ∧ M = []) := by
  subst hb
  refine specP_of Tryz.func115 rfl rfl (Nat.le_of_ble_eq_true rfl) (fun w F => ?_)
  refine hc_seq ?_
  refine hc_lex ?_
  (refine Zm rfl rfl rfl rfl rfl ?_; refine hx_plain rfl ?_; refine h_not rfl rfl rfl rfl ?_; refine Zt ?_)
  refine hc_condT rfl ?_
  refine hc_panic [_, _, _] rfl rfl ?_
  (refine Zm rfl rfl rfl rfl rfl ?_; refine hx_plain rfl ?_; refine h_build rfl inferInstance rfl rfl rfl rfl ?_; refine hx_plain rfl ?_)
  refine h_makeInterface rfl rfl UC.out rfl rfl rfl ?_
  (refine hx_nil ?_)
  exact ⟨_, _, rfl, hq_pan ⟨rfl, rfl⟩ (fun _ h => h)⟩
set_option maxHeartbeats 1000000 in
/-- The end of a call that has given up. -/
theorem end_panic (p : Nat) (v : Value) (at_ nx e : Int) (E : Addr) (g : Nat) :
    SpecDP Tryz.prog (gl E) g 111 [.pointer (some ⟨p, 0, none⟩)] (pan e) [rdrB p v at_ nx 0] (fun u M => u = .tuple #[] ∧ M = [rdrB p v at_ nx e]) := by
  refine specDP_recover Tryz.func111 rfl rfl (Nat.le_of_ble_eq_true rfl) rfl rfl rfl rfl (fun w F hI hF => ?_)
  unfold rdrB
  (refine hc_block ?_; refine Zl rfl ?_)
  refine h_eqIf rfl rfl rfl rfl (eq_nilA _ _) rfl rfl ?_
  (refine Zt ?_; refine hc_condF rfl ?_; refine Zl rfl ?_)
  refine h_typeAssert rfl rfl rfl (ta_err _) rfl rfl ?_
  ((iterate 2 (refine hx_plain rfl ?_; refine h_extract rfl rfl rfl rfl rfl ?_)); refine Zt ?_; refine hc_condT rfl ?_; refine Zx rfl rfl rfl rfl rfl ?_; refine Zl rfl ?_; (refine h_alloc rfl rfl IC.zero rfl rfl rfl (fun _ => ?_)); refine Zt ?_; refine hc_seq ?_; refine Zw rfl rfl rfl rfl rfl ?_; refine hx_plain rfl ?_)
  rename_i t
  refine h_gload hI hF rfl rfl (.head _) rfl UC.out rfl rfl rfl ?_
  (refine hx_plain rfl ?_)
  refine h_callI hI hF rfl rfl rfl rfl rfl rfl rfl rfl EC.out .nil (isT_spec e E g) ?_
  rintro u M ⟨rfl, rfl⟩
  (refine hx_plain rfl ?_; refine h_not rfl rfl rfl rfl ?_; refine Zm rfl rfl rfl rfl rfl ?_; refine hx_yes rfl rfl rfl ?_; refine h_move rfl rfl rfl rfl ?_; refine hx_yes rfl rfl rfl ?_)
  refine h_makeInterface rfl rfl UC.out rfl rfl rfl ?_
  (refine hx_yes rfl rfl rfl ?_)
  refine h_callI hI hF rfl rfl rfl rfl rfl rfl rfl rfl EC.out (.cons .head .nil) (asT_spec e t _ E g) ?_
  rintro u M ⟨rfl, rfl⟩
  (refine hx_yes rfl rfl rfl ?_; refine h_not rfl rfl rfl rfl ?_; refine Zp rfl rfl rfl rfl rfl rfl ?_; refine Zt ?_; refine hc_condF rfl ?_; refine hc_skip ?_; refine hq_then ?_; refine hc_lex ?_; refine Zm rfl rfl rfl rfl rfl ?_; refine Zf rfl rfl rfl rfl rfl ?_; refine Zh rfl rfl rfl rfl rfl rfl rfl ?_; refine hx_plain rfl ?_; refine h_nilCheck rfl rfl rfl rfl ?_; refine Zf rfl rfl rfl rfl rfl ?_; refine hx_plain rfl ?_; refine h_store rfl rfl rfl rfl rfl rfl IC.size (.tail .head) rfl rfl (Nat.le_of_ble_eq_true rfl) (List.all_eq_true.1 rfl) ?_; refine hx_nil ?_; refine hq_norm_block ?_)
  exact hq_ret0 (.inl rfl) rfl ⟨rfl, rfl⟩ (fun _ h => h.sub (.cons .head .nil))
/-- The end of a call at a reader that has an error. -/
theorem end_err (p : Nat) (v : Value) (at_ nx e : Int) (he : e ≠ 0) :
    SpecD Tryz.prog 111 [.pointer (some ⟨p, 0, none⟩)] [rdrB p v at_ nx e] (fun u M => u = .tuple #[] ∧ M = [rdrB p v at_ nx e]) := by
  refine specD_recover Tryz.func111 rfl rfl (Nat.le_of_ble_eq_true rfl) rfl rfl rfl rfl (fun w F => ?_)
  unfold rdrB
  (refine hc_block ?_; refine Zl rfl ?_)
  refine h_eqIface rfl rfl UC.out rfl rfl ?_
  (refine Zt ?_; refine hc_condT rfl ?_; refine Zx rfl rfl rfl rfl rfl ?_; refine Zw rfl rfl rfl rfl rfl ?_; refine hx_plain rfl ?_; refine h_nilCheck rfl rfl rfl rfl ?_; refine Zf rfl rfl rfl rfl rfl ?_; refine Zh rfl rfl rfl rfl rfl rfl rfl ?_; refine Zc rfl rfl rfl rfl rfl rfl rfl ?_; refine Zt ?_; refine hc_condDF rfl (by omega) ?_; refine hc_skip ?_; refine hq_norm_block ?_)
  exact hq_ret0 (.inl rfl) rfl ⟨rfl, rfl⟩ (fun _ h => h)
set_option maxHeartbeats 1000000 in
/-- take, where there are not so many bytes. -/
theorem take_panic (p g c : Nat) (bs : List Int) (at_ er : Int) (nx n : Nat) (hn : bs.length < nx + n) (hl : bs.length ≤ 140737488355200) (hnx : nx ≤ 140737488355328) :
    SpecP Tryz.prog 114 [.pointer (some ⟨p, 0, none⟩), .int .i64 (n : Int)] [rdrB p (.slice (some ⟨g, 0, none⟩) bs.length c) at_ (nx : Int) er, Row byteE 5 g c bs]
      (fun ch M => ch = pan 11 ∧ M = [rdrB p (.slice (some ⟨g, 0, none⟩) bs.length c) at_ (nx : Int) er, Row byteE 5 g c bs]) := by
  refine specP_of Tryz.func114 rfl rfl (Nat.le_of_ble_eq_true rfl) (fun w F => ?_)
  unfold rdrB
  refine hc_seq ?_
  refine hc_lex ?_
  (refine Zn rfl rfl rfl rfl rfl ?_)
  refine hc_seq ?_
  refine hc_drawP (f := 115) [_, _, _, _, _, _, _, _, _, _, _, _] rfl rfl rfl EC.out (by kernel_rfl) (by kernel_rfl) (panQ_then panQ) ?_
  ((iterate 2 (refine Zm rfl rfl rfl rfl rfl ?_)); refine hx_plain rfl ?_; refine h_nilCheck rfl rfl rfl rfl ?_; refine Zf rfl rfl rfl rfl rfl ?_; refine Zh rfl rfl rfl rfl rfl rfl rfl ?_; refine hx_plain rfl ?_; refine h_len_slice rfl rfl rfl UC.out rfl rfl rfl ?_; refine Zm rfl rfl rfl rfl rfl ?_; refine hx_plain rfl ?_; refine h_nilCheck rfl rfl rfl rfl ?_; refine Zf rfl rfl rfl rfl rfl ?_; refine Zh rfl rfl rfl rfl rfl rfl rfl ?_; refine hx_plain rfl ?_; refine h_arithI rfl rfl rfl rfl (by omega) rfl rfl ?_; refine Zc rfl rfl rfl rfl rfl rfl rfl ?_; refine hx_nil ?_)
  intro _
  refine PanicAt.mk rfl rfl .nil (give_panic 11 (decide_eq_false (show ¬ (n : Int) ≤ (bs.length : Int) - (nx : Int) by omega))) ?_
  rintro ch M ⟨rfl, rfl⟩
  refine hq_panic_then ?_
  exact hq_pan ⟨rfl, rfl⟩ (fun _ h => h)
/-- How many zeros stand behind n bytes. -/
def padN (n : Nat) : Nat := (4 - n % 4) % 4
theorem padN_lt (n : Nat) : padN n < 4 := Nat.mod_lt _ (by decide)
theorem padding_spec (n : Nat) (hn : n ≤ 140737488355200) : Spec0 Tryz.prog 182 [.int .i64 (n : Int)] (.int .i64 (padN n : Int)) := by
  refine spec_of Tryz.func182 rfl rfl (Nat.le_of_ble_eq_true rfl) (fun w F => ?_)
  have hm : (n : Int) % 4 = ((n % 4 : Nat) : Int) := by omega
  have h4 : n % 4 < 4 := Nat.mod_lt _ (by decide)
  (refine Zx rfl rfl rfl rfl rfl ?_; refine Zw rfl rfl rfl rfl rfl ?_; refine hx_plain rfl ?_; refine h_remI rfl rfl rfl (by omega) rfl rfl ?_; refine hx_plain rfl ?_; refine h_arithI rfl rfl rfl rfl (by omega) rfl rfl ?_; refine hx_plain rfl ?_; refine h_remI rfl rfl rfl (by omega) rfl rfl ?_; refine Zn rfl rfl rfl rfl rfl ?_; refine hc_ret ?_)
  refine hq_ret1 (.inr rfl) rfl rfl ⟨?_, rfl⟩ (fun _ h => h.emp)
  show Value.int .i64 _ = _
  congr 1
  unfold padN
  omega
theorem wrapI_in {x : Int} (h : -9223372036854775808 ≤ x ∧ x ≤ 9223372036854775807) : IntKind.i64.wrap x = x := by
  simp only [IntKind.wrap, IntKind.signed, IntKind.bits]
  simp
  omega
/-- The number at the place, of four bytes. -/
def N4 (bs : List Int) (at_ : Nat) : Int := IntKind.i64.wrap (numR ((bs.drop at_).take 4))
theorem byts_sub {bs : List Int} (h : Byts bs) (i n : Nat) : Byts ((bs.drop i).take n) := fun x hx => h x (List.mem_of_mem_drop (List.mem_of_mem_take hx))
theorem N4_eq {bs : List Int} (h : Byts bs) (at_ : Nat) : N4 bs at_ = numR ((bs.drop at_).take 4) ∧ 0 ≤ N4 bs at_ ∧ N4 bs at_ < 4294967296 := by
  obtain ⟨h1, h2, h3⟩ := numR_eq (byts_sub h at_ 4) (by rw [List.length_take]; omega)
  have h4 : (256 : Int) ^ ((bs.drop at_).take 4).length ≤ 256 ^ 4 := pow256_le (by rw [List.length_take]; omega)
  have h5 : (256 : Int) ^ 4 = 4294967296 := by decide
  have h6 : IntKind.i64.wrap (numR ((bs.drop at_).take 4)) = numR ((bs.drop at_).take 4) := wrapI_in (by omega)
  unfold N4
  rw [h6]
  exact ⟨rfl, by omega, by omega⟩
/-- The length of the field's bytes. -/
def NB (bs : List Int) (at_ : Nat) : Nat := (N4 bs at_).toNat
def padsOf (bs : List Int) (at_ : Nat) : List Int := (bs.drop (at_ + 4 + NB bs at_)).take (padN (NB bs at_))
/-- The error of body, 0 where there is none. -/
def bodyE (bs : List Int) (at_ : Nat) (most : Int) : Int :=
  if bs.length < at_ + 4 then 11 else if ¬ N4 bs at_ ≤ most then 14 else if bs.length < at_ + 4 + NB bs at_ then 11 else if bs.length < at_ + 4 + NB bs at_ + padN (NB bs at_) then 11 else if ∀ x ∈ padsOf bs at_, x = 0 then 0 else 15
theorem h_byteLoad {P : Program} {n : Nat} {ds : List Deferred} {ops : Array Oper} {ev wk : Nat → Bool} {K : Env → (World → Prop) → Prop} {r : List Oper} {o : Oper} {k : Nat} {e : Env} {w0 : World} {F0 : Nat → Prop} {L L' : List Asn} {T g cap : Nat} {xs : List Int}
    {t a : Nat} {x : Operand} {d : TypeDesc} {y : Int} (ho : o.op = .load t x) (hp : Pull L (Row byteE T g cap xs) L') (hx : e.op x = some (.pointer (some ⟨g, a, none⟩))) (hu : P.underlying t = some d) (hna : aggD d = false)
    (hi : xs[a]? = some y) {dd : Nat} (hdst : o.dst = some dd) (hd : okD n (some dd) = true) (h : HX P n ds ops ev wk K r (k + 1) ((dd, .int .u8 y) :: e) (St w0 F0 L)) : HX1 P n ds ops ev wk K o r k e (St w0 F0 L) :=
  h_rowLoad (i := a) (j := 0) ho hp (by rw [hx, Nat.add_zero]; show _ = some (Value.pointer (some ⟨g, a * 1, none⟩)); rw [Nat.mul_one]) hu hna hi rfl hdst hd h
theorem subV_at {g c i n : Nat} (h : i < c) : subV g c i n = .slice (some ⟨g, i, none⟩) n (c - i) := by
  unfold subV
  rw [if_neg (by omega), Nat.zero_add, Nat.mul_one]
end Go.Proofs.YtfolhmlldoepfaaGreatDoor
namespace Go.Proofs.YtfolhmlldoepfaaGreatDoor
open Go Go.Proofs Go.RowKit
set_option maxRecDepth 4000
theorem bodyE_ok {bs : List Int} {at_ : Nat} {most : Int} (h : bodyE bs at_ most = 0) : at_ + 4 ≤ bs.length ∧ N4 bs at_ ≤ most ∧ at_ + 4 + NB bs at_ ≤ bs.length ∧ at_ + 4 + NB bs at_ + padN (NB bs at_) ≤ bs.length ∧ ∀ x ∈ padsOf bs at_, x = 0 := by
  unfold bodyE at h
  split at h
  · omega
  · split at h
    · omega
    · split at h
      · omega
      · split at h
        · omega
        · split at h
          · rename_i h1 h2 h3 h4 h5
            exact ⟨by omega, Classical.not_not.1 h2, by omega, by omega, h5⟩
          · omega
theorem N4_nat {bs : List Int} (hb : Byts bs) (at_ : Nat) : IntKind.i64.wrap (numR ((bs.drop at_).take 4)) = ((NB bs at_ : Nat) : Int) := by
  have := N4_eq hb at_
  unfold NB
  show N4 bs at_ = _
  omega
theorem NB_lt {bs : List Int} (hb : Byts bs) (at_ : Nat) : NB bs at_ < 4294967296 := by
  have := N4_eq hb at_
  unfold NB
  omega
theorem pads_get {bs : List Int} {at_ i : Nat} (hi : i < padN (NB bs at_)) (_hl : at_ + 4 + NB bs at_ + padN (NB bs at_) ≤ bs.length) : (padsOf bs at_)[i]? = bs[at_ + 4 + NB bs at_ + i]? := by
  unfold padsOf
  rw [List.getElem?_take_of_lt hi, List.getElem?_drop]
set_option maxHeartbeats 2000000 in
theorem body_ok (p g c : Nat) (bs : List Int) (at_ : Nat) (most : Int) (hb : Byts bs) (hc : bs.length ≤ c) (hl : bs.length ≤ 140737488355200) (he : bodyE bs at_ most = 0) :
    Spec Tryz.prog 181 [.pointer (some ⟨p, 0, none⟩), .int .i64 most] [rdrB p (.slice (some ⟨g, 0, none⟩) bs.length c) (at_ : Int) (at_ : Int) 0, Row byteE 5 g c bs]
      (fun u M => u = subV g c (at_ + 4) (NB bs at_) ∧ M = [rdrB p (.slice (some ⟨g, 0, none⟩) bs.length c) (at_ : Int) ((at_ + 4 + NB bs at_ + padN (NB bs at_) : Nat) : Int) 0, Row byteE 5 g c bs]) := by
  obtain ⟨h1, h2, h3, h4, h5⟩ := bodyE_ok he
  have eN := N4_nat hb at_
  have hNB := NB_lt hb at_
  have h2' : ((NB bs at_ : Nat) : Int) ≤ most := by rw [← eN]; exact h2
  have hpad := padN_lt (NB bs at_)
  refine spec_of Tryz.func181 rfl rfl (Nat.le_of_ble_eq_true rfl) (fun w F => ?_)
  (refine Zx rfl rfl rfl rfl rfl ?_; refine Zw rfl rfl rfl rfl rfl ?_; refine hx_plain rfl ?_)
  refine h_call rfl rfl rfl rfl rfl rfl rfl rfl EC.out (.cons .head (.cons .head .nil)) (take_spec p g c bs _ _ at_ 4 h1 hc hl) ?_
  rintro u M ⟨rfl, rfl⟩
  (refine hx_plain rfl ?_)
  refine h_callRd rfl rfl rfl rfl rfl rfl EC.out (fun w' h => number_reads (h.rdSub (.tail .head) h1)) ?_
  (refine hx_plain rfl ?_; refine h_convInt rfl rfl UC.out UC.out rfl rfl ?_; refine Zn rfl rfl rfl rfl rfl ?_; refine Zw rfl rfl rfl rfl rfl ?_; refine Zm rfl rfl rfl rfl rfl ?_; refine Zc rfl rfl rfl rfl rfl rfl rfl ?_; refine hx_plain rfl ?_)
  rw [eN, decide_eq_true h2', show (at_ : Int) + ((4 : Nat) : Int) = ((at_ + 4 : Nat) : Int) by omega]
  refine h_callR rfl rfl rfl rfl rfl rfl EC.out ((give_true 14).reads _) ?_
  (refine Zt ?_; refine Zw rfl rfl rfl rfl rfl ?_; refine Zm rfl rfl rfl rfl rfl ?_; refine hx_plain rfl ?_)
  refine h_call rfl rfl rfl rfl rfl rfl rfl rfl EC.out (.cons .head (.cons .head .nil)) (take_spec p g c bs _ _ (at_ + 4) (NB bs at_) h3 hc hl) ?_
  rintro u M ⟨rfl, rfl⟩
  rw [show ((at_ + 4 : Nat) : Int) + ((NB bs at_ : Nat) : Int) = ((at_ + 4 + NB bs at_ : Nat) : Int) by omega]
  (refine Zn rfl rfl rfl rfl rfl ?_; refine hc_seq ?_; refine Zw rfl rfl rfl rfl rfl ?_; refine Zm rfl rfl rfl rfl rfl ?_; refine hx_plain rfl ?_)
  refine h_callR rfl rfl rfl rfl rfl rfl EC.out ((padding_spec (NB bs at_) (by omega)).reads _) ?_
  (refine hx_plain rfl ?_)
  refine h_call rfl rfl rfl rfl rfl rfl rfl rfl EC.out (.cons .head (.cons .head .nil)) (take_spec p g c bs _ _ (at_ + 4 + NB bs at_) (padN (NB bs at_)) h4 hc hl) ?_
  rintro u M ⟨rfl, rfl⟩
  rw [show ((at_ + 4 + NB bs at_ : Nat) : Int) + ((padN (NB bs at_) : Nat) : Int) = ((at_ + 4 + NB bs at_ + padN (NB bs at_) : Nat) : Int) by omega]
  obtain ⟨sv, hsv⟩ : ∃ sv, subV g c (at_ + 4) (NB bs at_) = sv := ⟨_, rfl⟩
  rw [hsv]
  by_cases hp0 : 0 < padN (NB bs at_)
  · rw [subV_at (g := g) (c := c) (i := at_ + 4 + NB bs at_) (n := padN (NB bs at_)) (by omega)]
    (refine hx_plain rfl ?_; refine h_len_slice rfl rfl rfl UC.out rfl rfl rfl ?_; refine Zm rfl rfl rfl rfl rfl ?_; refine Zt ?_; refine hc_block ?_)
    refine hc_cut (id := 0) (Y := Unit) (fun _ => [(6, sv)]) (fun _ => [rdrB p (.slice (some ⟨g, 0, none⟩) bs.length c) (at_ : Int) ((at_ + 4 + NB bs at_ + padN (NB bs at_) : Nat) : Int) 0, Row byteE 5 g c bs]) (fun _ => True) ?_ ?_
    · refine hc_loop (X := Nat) (fun i => [(6, sv), (23, .slice (some ⟨g, at_ + 4 + NB bs at_, none⟩) (padN (NB bs at_)) (c - (at_ + 4 + NB bs at_))), (24, .int .i64 ((padN (NB bs at_) : Nat) : Int)), (25, .int .i64 (i : Int))]) (fun _ => [rdrB p (.slice (some ⟨g, 0, none⟩) bs.length c) (at_ : Int) ((at_ + 4 + NB bs at_ + padN (NB bs at_) : Nat) : Int) 0, Row byteE 5 g c bs]) (fun i => i ≤ padN (NB bs at_)) (fun i => padN (NB bs at_) - i) 0 (.cons rfl (.cons rfl (.cons rfl (.cons rfl .nil)))) (Nat.zero_le _) (fun _ h => h) ?_
      intro i hi
      by_cases hlt : i < padN (NB bs at_)
      · have hz : bs[at_ + 4 + NB bs at_ + ((i : Nat) : Int).toNat * 1]? = some 0 := by
          have e1 : ((i : Nat) : Int).toNat * 1 = i := by omega
          rw [e1, ← pads_get hlt h4]
          have hlen : (padsOf bs at_).length = padN (NB bs at_) := by unfold padsOf; rw [List.length_take, List.length_drop]; omega
          rw [List.getElem?_eq_getElem (by omega)]
          exact congrArg some (h5 _ (List.getElem_mem _))
        (refine Zl rfl ?_; refine h_cmp rfl rfl rfl rfl rfl rfl ?_; refine Zt ?_; refine hc_seq ?_; refine hc_condDT rfl (by omega) ?_; refine hc_skip ?_; refine hq_then ?_; refine hc_seq ?_; refine hc_block ?_; refine Zl rfl ?_; refine h_indexAddr rfl rfl rfl UC.out IC.size (by omega) (by omega) rfl rfl ?_; refine hx_plain rfl ?_)
        refine h_byteLoad rfl (.tail .head) rfl UC.out rfl hz rfl rfl ?_
        (refine Zn rfl rfl rfl rfl rfl ?_; refine hc_lex ?_; refine Zm rfl rfl rfl rfl rfl ?_; refine Zc rfl rfl rfl rfl rfl rfl rfl ?_; refine hx_plain rfl ?_)
        rw [decide_eq_true rfl]
        refine h_callR rfl rfl rfl rfl rfl rfl EC.out ((give_true 15).reads _) ?_
        (refine hx_nil ?_; refine hq_norm_block ?_; refine hq_then ?_; refine hc_lex ?_; refine hx_plain rfl ?_; refine h_arithI rfl rfl rfl rfl (by omega) rfl rfl ?_; refine Zm rfl rfl rfl rfl rfl ?_; refine hx_nil ?_)
        exact hq_round (i + 1) (by omega) (by omega) (.cons rfl (.cons rfl (.cons rfl (.cons rfl .nil)))) (fun _ h => h)
      · (refine Zl rfl ?_; refine h_cmp rfl rfl rfl rfl rfl rfl ?_; refine Zt ?_; refine hc_seq ?_; refine hc_condDF rfl (by omega) ?_; refine hc_exit ?_; (iterate 2 (refine hq_exit_then ?_)))
        exact hq_cut () trivial (.cons rfl .nil) (fun _ h => h)
    · rintro ⟨⟩ _
      (refine hq_exit_block ?_; refine hq_then ?_; refine Zw rfl rfl rfl rfl rfl ?_; refine Zn rfl rfl rfl rfl rfl ?_; refine hc_ret ?_)
      exact hq_ret1 (.inr rfl) rfl rfl ⟨rfl, rfl⟩ (fun _ h => h)
  · obtain ⟨pv, hpv⟩ : ∃ pv : Value, ∃ a cap, subV g c (at_ + 4 + NB bs at_) (padN (NB bs at_)) = pv ∧ pv = .slice (some a) 0 cap := ⟨_, ⟨_, _, _⟩, _, rfl, by unfold subV; rw [show padN (NB bs at_) = 0 by omega]⟩
    obtain ⟨a, cap, hpv1, rfl⟩ := hpv
    rw [hpv1, show padN (NB bs at_) = 0 by omega]
    (refine hx_plain rfl ?_; refine h_len_slice rfl rfl rfl UC.out rfl rfl rfl ?_; refine Zm rfl rfl rfl rfl rfl ?_; refine Zt ?_; refine hc_block ?_)
    refine hc_cut (id := 0) (Y := Unit) (fun _ => [(6, sv)]) (fun _ => [rdrB p (.slice (some ⟨g, 0, none⟩) bs.length c) (at_ : Int) ((at_ + 4 + NB bs at_ + 0 : Nat) : Int) 0, Row byteE 5 g c bs]) (fun _ => True) ?_ ?_
    · refine hc_loop (X := Unit) (fun i => [(6, sv), (24, .int .i64 0), (25, .int .i64 0)]) (fun _ => [rdrB p (.slice (some ⟨g, 0, none⟩) bs.length c) (at_ : Int) ((at_ + 4 + NB bs at_ + 0 : Nat) : Int) 0, Row byteE 5 g c bs]) (fun _ => True) (fun _ => 0) () (.cons rfl (.cons rfl (.cons rfl .nil))) trivial (fun _ h => h) ?_
      intro i hi
      (refine Zl rfl ?_; refine h_cmp rfl rfl rfl rfl rfl rfl ?_; refine Zt ?_; refine hc_seq ?_; refine hc_condF rfl ?_; refine hc_exit ?_; (iterate 2 (refine hq_exit_then ?_)))
      exact hq_cut () trivial (.cons rfl .nil) (fun _ h => h)
    · rintro ⟨⟩ _
      (refine hq_exit_block ?_; refine hq_then ?_; refine Zw rfl rfl rfl rfl rfl ?_; refine Zn rfl rfl rfl rfl rfl ?_; refine hc_ret ?_)
      exact hq_ret1 (.inr rfl) rfl rfl ⟨rfl, rfl⟩ (fun _ h => h)
end Go.Proofs.YtfolhmlldoepfaaGreatDoor
namespace Go.Proofs.YtfolhmlldoepfaaGreatDoor
open Go Go.Proofs Go.RowKit
set_option maxRecDepth 4000
set_option maxHeartbeats 4000000 in
theorem body_panic (p g c : Nat) (bs : List Int) (at_ : Nat) (most : Int) (hb : Byts bs) (hc : bs.length ≤ c) (hl : bs.length ≤ 140737488355200) (hat : at_ ≤ bs.length) (he : bodyE bs at_ most ≠ 0) :
    SpecP Tryz.prog 181 [.pointer (some ⟨p, 0, none⟩), .int .i64 most] [rdrB p (.slice (some ⟨g, 0, none⟩) bs.length c) (at_ : Int) (at_ : Int) 0, Row byteE 5 g c bs]
      (fun ch M => ch = pan (bodyE bs at_ most) ∧ ∃ nx, M = [rdrB p (.slice (some ⟨g, 0, none⟩) bs.length c) (at_ : Int) nx 0, Row byteE 5 g c bs]) := by
  have eN := N4_nat hb at_
  have hNB := NB_lt hb at_
  have hpad := padN_lt (NB bs at_)
  refine specP_of Tryz.func181 rfl rfl (Nat.le_of_ble_eq_true rfl) (fun w F => ?_)
  refine hc_seq ?_
  refine hc_lex ?_
  (refine Zn rfl rfl rfl rfl rfl ?_)
  refine hc_seq ?_
  by_cases h1 : bs.length < at_ + 4
  · refine hc_callP (f := 114) [_] rfl rfl rfl EC.out ?_
    (refine Zm rfl rfl rfl rfl rfl ?_; refine hx_nil ?_)
    refine PanicAt.mk rfl rfl (.cons .head (.cons .head .nil)) (take_panic p g c bs _ _ at_ 4 (by omega) hl (by omega)) ?_
    rintro ch M ⟨rfl, rfl⟩
    refine hq_panic_then ?_
    exact hq_pan ⟨by unfold bodyE; rw [if_pos h1], _, rfl⟩ (fun _ h => h)
  refine hc_lex ?_
  (refine Zm rfl rfl rfl rfl rfl ?_; refine hx_plain rfl ?_)
  refine h_call rfl rfl rfl rfl rfl rfl rfl rfl EC.out (.cons .head (.cons .head .nil)) (take_spec p g c bs _ _ at_ 4 (by omega) hc hl) ?_
  rintro u M ⟨rfl, rfl⟩
  (refine hx_plain rfl ?_)
  refine h_callRd rfl rfl rfl rfl rfl rfl EC.out (fun w' h => number_reads (h.rdSub (.tail .head) (by omega))) ?_
  (refine hx_plain rfl ?_; refine h_convInt rfl rfl UC.out UC.out rfl rfl ?_; refine Zn rfl rfl rfl rfl rfl ?_)
  rw [eN, show (at_ : Int) + ((4 : Nat) : Int) = ((at_ + 4 : Nat) : Int) by omega]
  refine hc_seq ?_
  by_cases h2 : ((NB bs at_ : Nat) : Int) ≤ most
  case neg =>
    refine hc_callP (f := 115) [_, _, _] rfl rfl rfl EC.out ?_
    ((iterate 2 (refine Zm rfl rfl rfl rfl rfl ?_)); refine Zc rfl rfl rfl rfl rfl rfl rfl ?_; refine hx_nil ?_)
    refine PanicAt.mk rfl rfl .nil (give_panic 14 (decide_eq_false h2)) ?_
    rintro ch M ⟨rfl, rfl⟩
    refine hq_panic_then ?_
    refine hq_pan ⟨?_, _, rfl⟩ (fun _ h => h)
    have e2 : N4 bs at_ = ((NB bs at_ : Nat) : Int) := eN
    unfold bodyE
    rw [if_neg h1, if_pos (by rw [e2]; exact h2)]
  have h2' : ¬ ¬ N4 bs at_ ≤ most := fun h => h (by have e2 : N4 bs at_ = ((NB bs at_ : Nat) : Int) := eN; rw [e2]; exact h2)
  refine hc_lex ?_
  ((iterate 2 (refine Zm rfl rfl rfl rfl rfl ?_)); refine Zc rfl rfl rfl rfl rfl rfl rfl ?_; refine hx_plain rfl ?_)
  rw [decide_eq_true h2]
  refine h_callR rfl rfl rfl rfl rfl rfl EC.out ((give_true 14).reads _) ?_
  (refine Zt ?_)
  refine hc_seq ?_
  by_cases h3 : bs.length < at_ + 4 + NB bs at_
  · refine hc_callP (f := 114) [_, _] rfl rfl rfl EC.out ?_
    ((iterate 2 (refine Zm rfl rfl rfl rfl rfl ?_)); refine hx_nil ?_)
    refine PanicAt.mk rfl rfl (.cons .head (.cons .head .nil)) (take_panic p g c bs _ _ (at_ + 4) (NB bs at_) (by omega) hl (by omega)) ?_
    rintro ch M ⟨rfl, rfl⟩
    refine hq_panic_then ?_
    exact hq_pan ⟨by unfold bodyE; rw [if_neg h1, if_neg h2', if_pos h3], _, rfl⟩ (fun _ h => h)
  refine hc_lex ?_
  ((iterate 2 (refine Zm rfl rfl rfl rfl rfl ?_)); refine hx_plain rfl ?_)
  refine h_call rfl rfl rfl rfl rfl rfl rfl rfl EC.out (.cons .head (.cons .head .nil)) (take_spec p g c bs _ _ (at_ + 4) (NB bs at_) (by omega) hc hl) ?_
  rintro u M ⟨rfl, rfl⟩
  rw [show ((at_ + 4 : Nat) : Int) + ((NB bs at_ : Nat) : Int) = ((at_ + 4 + NB bs at_ : Nat) : Int) by omega]
  (refine Zn rfl rfl rfl rfl rfl ?_)
  refine hc_seq ?_
  refine hc_seq ?_
  by_cases h4 : bs.length < at_ + 4 + NB bs at_ + padN (NB bs at_)
  · refine hc_callP (f := 114) [_, _, _] rfl rfl rfl EC.out ?_
    ((iterate 2 (refine Zm rfl rfl rfl rfl rfl ?_)); refine hx_plain rfl ?_)
    refine h_callR rfl rfl rfl rfl rfl rfl EC.out ((padding_spec (NB bs at_) (by omega)).reads _) ?_
    (refine hx_nil ?_)
    refine PanicAt.mk rfl rfl (.cons .head (.cons .head .nil)) (take_panic p g c bs _ _ (at_ + 4 + NB bs at_) (padN (NB bs at_)) (by omega) hl (by omega)) ?_
    rintro ch M ⟨rfl, rfl⟩
    refine hq_panic_then ?_
    refine hq_panic_then ?_
    exact hq_pan ⟨by unfold bodyE; rw [if_neg h1, if_neg h2', if_neg h3, if_pos h4], _, rfl⟩ (fun _ h => h)
  have h5 : ¬ ∀ x ∈ padsOf bs at_, x = 0 := fun h5 => he (by unfold bodyE; rw [if_neg h1, if_neg h2', if_neg h3, if_neg h4, if_pos h5])
  have he15 : bodyE bs at_ most = 15 := by unfold bodyE; rw [if_neg h1, if_neg h2', if_neg h3, if_neg h4, if_neg h5]
  have hlen : (padsOf bs at_).length = padN (NB bs at_) := by unfold padsOf; rw [List.length_take, List.length_drop]; omega
  have hp0 : 0 < padN (NB bs at_) := by
    rcases Nat.eq_zero_or_pos (padN (NB bs at_)) with h | h
    · exfalso
      apply h5
      intro x hx
      rw [List.eq_nil_of_length_eq_zero (by omega : (padsOf bs at_).length = 0)] at hx
      cases hx
    · exact h
  refine hc_lex ?_
  ((iterate 2 (refine Zm rfl rfl rfl rfl rfl ?_)); refine hx_plain rfl ?_)
  refine h_callR rfl rfl rfl rfl rfl rfl EC.out ((padding_spec (NB bs at_) (by omega)).reads _) ?_
  (refine hx_plain rfl ?_)
  refine h_call rfl rfl rfl rfl rfl rfl rfl rfl EC.out (.cons .head (.cons .head .nil)) (take_spec p g c bs _ _ (at_ + 4 + NB bs at_) (padN (NB bs at_)) (by omega) hc hl) ?_
  rintro u M ⟨rfl, rfl⟩
  rw [show ((at_ + 4 + NB bs at_ : Nat) : Int) + ((padN (NB bs at_) : Nat) : Int) = ((at_ + 4 + NB bs at_ + padN (NB bs at_) : Nat) : Int) by omega]
  obtain ⟨sv, hsv⟩ : ∃ sv, subV g c (at_ + 4) (NB bs at_) = sv := ⟨_, rfl⟩
  rw [hsv]
  rw [subV_at (g := g) (c := c) (i := at_ + 4 + NB bs at_) (n := padN (NB bs at_)) (by omega)]
  (refine hx_plain rfl ?_; refine h_len_slice rfl rfl rfl UC.out rfl rfl rfl ?_; refine Zm rfl rfl rfl rfl rfl ?_; refine Zt ?_; refine hc_block ?_)
  refine hc_loop (X := Nat) (fun i => [(6, sv), (23, .slice (some ⟨g, at_ + 4 + NB bs at_, none⟩) (padN (NB bs at_)) (c - (at_ + 4 + NB bs at_))), (24, .int .i64 ((padN (NB bs at_) : Nat) : Int)), (25, .int .i64 (i : Int))]) (fun _ => [rdrB p (.slice (some ⟨g, 0, none⟩) bs.length c) (at_ : Int) ((at_ + 4 + NB bs at_ + padN (NB bs at_) : Nat) : Int) 0, Row byteE 5 g c bs]) (fun i => i ≤ padN (NB bs at_) ∧ ∀ x ∈ (padsOf bs at_).take i, x = 0) (fun i => padN (NB bs at_) - i) 0 (.cons rfl (.cons rfl (.cons rfl (.cons rfl .nil)))) ⟨Nat.zero_le _, by simp⟩ (fun _ h => h) ?_
  rintro i ⟨hi, hz0⟩
  by_cases hlt : i < padN (NB bs at_)
  · obtain ⟨y, hy, hz⟩ : ∃ y, (padsOf bs at_)[i]? = some y ∧ bs[at_ + 4 + NB bs at_ + ((i : Nat) : Int).toNat * 1]? = some y := by
      have e1 : ((i : Nat) : Int).toNat * 1 = i := by omega
      rw [e1, ← pads_get hlt (by omega)]
      rw [List.getElem?_eq_getElem (by omega)]
      exact ⟨_, rfl, rfl⟩
    refine hc_seq ?_
    refine hc_lex ?_
    (refine Zc rfl rfl rfl rfl rfl rfl rfl ?_; refine Zt ?_)
    refine hc_seq ?_
    refine hc_condDT rfl (by omega) ?_
    refine hc_skip ?_
    refine hq_then ?_
    refine hc_seq ?_
    refine hc_block ?_
    refine hc_seq ?_
    refine hc_lex ?_
    (refine hx_plain rfl ?_; refine h_indexAddr rfl rfl rfl UC.out IC.size (by omega) (by omega) rfl rfl ?_; refine hx_plain rfl ?_)
    refine h_byteLoad rfl (.tail .head) rfl UC.out rfl hz rfl rfl ?_
    (refine Zn rfl rfl rfl rfl rfl ?_)
    by_cases hy0 : y = 0
    · subst hy0
      refine hc_lex ?_
      (refine Zm rfl rfl rfl rfl rfl ?_; refine Zc rfl rfl rfl rfl rfl rfl rfl ?_; refine hx_plain rfl ?_)
      rw [decide_eq_true rfl]
      refine h_callR rfl rfl rfl rfl rfl rfl EC.out ((give_true 15).reads _) ?_
      (refine hx_nil ?_; refine hq_norm_block ?_; refine hq_then ?_; refine hc_lex ?_; refine hx_plain rfl ?_; refine h_arithI rfl rfl rfl rfl (by omega) rfl rfl ?_; refine Zm rfl rfl rfl rfl rfl ?_; refine hx_nil ?_)
      refine hq_round (i + 1) (by omega) ⟨by omega, fun x hx => ?_⟩ (.cons rfl (.cons rfl (.cons rfl (.cons rfl .nil)))) (fun _ h => h)
      rw [List.take_succ_eq_append_getElem (by omega)] at hx
      rcases List.mem_append.1 hx with h | h
      · exact hz0 x h
      · rw [List.mem_singleton.1 h]
        have := List.getElem?_eq_getElem (show i < (padsOf bs at_).length by omega)
        rw [hy] at this
        exact (Option.some.inj this).symm
    · refine hc_callP (f := 115) [_, _] rfl rfl rfl EC.out ?_
      (refine Zm rfl rfl rfl rfl rfl ?_; refine Zc rfl rfl rfl rfl rfl rfl rfl ?_; refine hx_nil ?_)
      refine PanicAt.mk rfl rfl .nil (give_panic 15 (decide_eq_false hy0)) ?_
      rintro ch M ⟨rfl, rfl⟩
      repeat (first | with_reducible refine hq_panic_then ?_ | with_reducible refine hq_panic_block ?_)
      exact hq_pan ⟨by rw [he15], _, rfl⟩ (fun _ h => h)
  · exfalso
    apply h5
    rw [List.take_of_length_le (by omega)] at hz0
    exact hz0
end Go.Proofs.YtfolhmlldoepfaaGreatDoor
namespace Go.Proofs.YtfolhmlldoepfaaGreatDoor
open Go Go.Proofs Go.RowKit
set_option maxRecDepth 4000
/-- A reader: its bytes, its place, its error. -/
def RdrX (p : Nat) (bs : List Int) (at_ : Nat) (er : Int) : Asn := Ex fun x : Int × Nat × Nat => All [rdrB p (.slice (some ⟨x.2.1, 0, none⟩) bs.length x.2.2) (at_ : Int) x.1 er, Row byteE 5 x.2.1 x.2.2 bs]
theorem RdrX_open {p : Nat} {bs : List Int} {at_ : Nat} {er : Int} (w w0 : World) (F0 : Nat → Prop) (R : List Asn) (h : St w0 F0 (RdrX p bs at_ er :: R) w) : ∃ x : Int × Nat × Nat, St w0 F0 ([rdrB p (.slice (some ⟨x.2.1, 0, none⟩) bs.length x.2.2) (at_ : Int) x.1 er, Row byteE 5 x.2.1 x.2.2 bs] ++ R) w := by
  obtain ⟨x, hx⟩ := St.ex.1 h
  exact ⟨x, St.all.1 hx⟩
theorem RdrX_shut {p g c : Nat} {bs : List Int} {at_ : Nat} {nx er : Int} {w w0 : World} {F0 : Nat → Prop} {R : List Asn} (h : St w0 F0 (rdrB p (.slice (some ⟨g, 0, none⟩) bs.length c) (at_ : Int) nx er :: Row byteE 5 g c bs :: R) w) : St w0 F0 (RdrX p bs at_ er :: R) w :=
  St.ex.2 ⟨(nx, g, c), St.all.2 h⟩
theorem RdrO.toX {p : Nat} {bs : List Int} {nx er : Int} {w w0 : World} {F0 : Nat → Prop} {R : List Asn} (h : St w0 F0 (RdrO p bs 0 nx er :: R) w) : St w0 F0 (RdrX p bs 0 er :: R) w := by
  obtain ⟨⟨g, c⟩, hx⟩ := RdrO_open w w0 F0 R h
  exact RdrX_shut (at_ := 0) hx
/-- The number at the place, of eight bytes. -/
def N8 (bs : List Int) (at_ : Nat) : Int := numR ((bs.drop at_).take 8)
def U32R (bs : List Int) (at_ : Nat) (er most : Int) : Int × Nat × Int :=
  if er ≠ 0 then (0, at_, er) else if bs.length < at_ + 4 then (0, at_, 11) else if N4 bs at_ ≤ most then (N4 bs at_, at_ + 4, 0) else (0, at_, 12)
def U64R (bs : List Int) (at_ : Nat) (er most : Int) : Int × Nat × Int :=
  if er ≠ 0 then (0, at_, er) else if bs.length < at_ + 8 then (0, at_, 11) else if 0 ≤ most ∧ N8 bs at_ ≤ IntKind.u64.wrap most then (IntKind.i64.wrap (N8 bs at_), at_ + 8, 0) else (0, at_, 12)
def SumR (bs : List Int) (at_ : Nat) (er : Int) : Int × Nat × Int :=
  if er ≠ 0 then (0, at_, er) else if bs.length < at_ + 8 then (0, at_, 11) else (N8 bs at_, at_ + 8, 0)
def FlagR (bs : List Int) (at_ : Nat) (er : Int) : Bool × Nat × Int :=
  if er ≠ 0 then (false, at_, er) else if bs.length < at_ + 4 then (false, at_, 11) else if numR ((bs.drop at_).take 4) ≤ 1 then (decide (numR ((bs.drop at_).take 4) = 1), at_ + 4, 0) else (false, at_, 13)
def BodyR (bs : List Int) (at_ : Nat) (er most : Int) : List Int × Nat × Int :=
  if er ≠ 0 then ([], at_, er) else if bodyE bs at_ most = 0 then ((bs.drop (at_ + 4)).take (NB bs at_), at_ + 4 + NB bs at_ + padN (NB bs at_), 0) else ([], at_, bodyE bs at_ most)
section
variable (p : Nat) (bs : List Int) (at_ : Nat) (er most : Int) (E : Addr) (g : Nat) (hl : bs.length ≤ 140737488355200) (hat : at_ ≤ bs.length)
include hl hat
set_option maxHeartbeats 1000000 in
theorem u32_all : SpecI Tryz.prog (gl E) g 71 [.pointer (some ⟨p, 0, none⟩), .int .i64 most] [RdrX p bs at_ er]
    (fun u M => u = .int .i64 (U32R bs at_ er most).1 ∧ M = [RdrX p bs (U32R bs at_ er most).2.1 (U32R bs at_ er most).2.2]) := by
  refine specI_ofD Tryz.func71 rfl rfl (Nat.le_of_ble_eq_true rfl) (fun w F hI hF => ?_)
  refine hc_open .head RdrX_open ?_
  rintro ⟨nx, b, c⟩
  dsimp only
  refine hc_know (fun _ h => (h.perm (Pull.tail .head).perm).row_le.1) (fun hc => ?_)
  refine hc_seq ?_
  refine hc_lex ?_
  (refine Zn rfl rfl rfl rfl rfl ?_)
  refine hc_seq ?_
  refine hc_defer (f := 111) (l1 := [_]) rfl rfl rfl rfl ?_
  (refine Zm rfl rfl rfl rfl rfl ?_; refine hx_nil ?_)
  refine ⟨_, _, rfl, rfl, ?_⟩
  refine hq_then ?_
  refine hc_seq ?_
  refine hc_seq ?_
  refine hc_lex ?_
  (refine Zm rfl rfl rfl rfl rfl ?_; refine hx_plain rfl ?_)
  refine h_call rfl rfl rfl rfl rfl rfl rfl rfl EC.out (.cons .head .nil) (begin_spec p _ _ _ _) ?_
  rintro u M ⟨rfl, rfl⟩
  (refine Zt ?_)
  by_cases her : er = 0
  case neg =>
    have e1 : U32R bs at_ er most = (0, at_, er) := if_pos her
    rw [e1]
    (refine hc_condDF rfl (by omega) ?_; refine hc_skip ?_; refine hq_then ?_; refine Zw rfl rfl rfl rfl rfl ?_; refine Zn rfl rfl rfl rfl rfl ?_; refine hc_ret ?_)
    refine hq_retD1 (.inr rfl) rfl EC.out (.cons .head .nil) (end_err p _ _ _ er her) ?_
    rintro u M ⟨rfl, rfl⟩
    exact ⟨_, _, rv_tmp rfl, ⟨rfl, rfl⟩, fun _ h => RdrX_shut (g := b) (c := c) h⟩
  subst her
  refine hc_condDT rfl rfl ?_
  refine hc_seq ?_
  by_cases h1 : bs.length < at_ + 4
  · have e1 : U32R bs at_ 0 most = (0, at_, 11) := by unfold U32R; rw [if_neg (by simp), if_pos h1]
    rw [e1]
    refine hc_callP (f := 114) [_] rfl rfl rfl EC.out ?_
    (refine Zm rfl rfl rfl rfl rfl ?_; refine hx_nil ?_)
    refine PanicAt.mk rfl rfl (.cons .head (.cons .head .nil)) (take_panic p b c bs _ _ at_ 4 (by omega) hl (by omega)) ?_
    rintro ch M ⟨rfl, rfl⟩
    repeat (with_reducible refine hq_panic_then ?_)
    refine hq_panD1 hI hF rfl EC.out (.cons .head .nil) (end_panic p _ _ _ 11 E g) ?_
    rintro u M ⟨rfl, rfl⟩
    exact ⟨_, _, rv_tmp rfl, ⟨rfl, rfl⟩, fun _ h => RdrX_shut (g := b) (c := c) h⟩
  refine hc_lex ?_
  (refine Zm rfl rfl rfl rfl rfl ?_; refine hx_plain rfl ?_)
  refine h_call rfl rfl rfl rfl rfl rfl rfl rfl EC.out (.cons .head (.cons .head .nil)) (take_spec p b c bs _ _ at_ 4 (by omega) hc hl) ?_
  rintro u M ⟨rfl, rfl⟩
  (refine hx_plain rfl ?_)
  refine h_callRd rfl rfl rfl rfl rfl rfl EC.out (fun w' h => number_reads (h.rdSub (.tail .head) (by omega))) ?_
  (refine hx_plain rfl ?_; refine h_convInt rfl rfl UC.out UC.out rfl rfl ?_; refine Zn rfl rfl rfl rfl rfl ?_)
  have eN : IntKind.i64.wrap (numR ((bs.drop at_).take 4)) = N4 bs at_ := rfl
  rw [eN, show (at_ : Int) + ((4 : Nat) : Int) = ((at_ + 4 : Nat) : Int) by omega]
  refine hc_seq ?_
  by_cases h2 : N4 bs at_ ≤ most
  · have e1 : U32R bs at_ 0 most = (N4 bs at_, at_ + 4, 0) := by unfold U32R; rw [if_neg (by simp), if_neg h1, if_pos h2]
    rw [e1]
    (refine hc_lex ?_; (iterate 2 (refine Zm rfl rfl rfl rfl rfl ?_)); refine Zc rfl rfl rfl rfl rfl rfl rfl ?_; refine hx_plain rfl ?_)
    rw [decide_eq_true h2]
    refine h_callR rfl rfl rfl rfl rfl rfl EC.out ((give_true 12).reads _) ?_
    (refine Zt ?_; refine hc_lex ?_; refine Zm rfl rfl rfl rfl rfl ?_; refine Zn rfl rfl rfl rfl rfl ?_; refine Zw rfl rfl rfl rfl rfl ?_; refine Zn rfl rfl rfl rfl rfl ?_; refine hc_ret ?_)
    refine hq_retD1 (.inr rfl) rfl EC.out (.cons .head .nil) (end_spec p _ _ _) ?_
    rintro u M ⟨rfl, rfl⟩
    exact ⟨_, _, rv_tmp rfl, ⟨rfl, rfl⟩, fun _ h => RdrX_shut (g := b) (c := c) h⟩
  · have e1 : U32R bs at_ 0 most = (0, at_, 12) := by unfold U32R; rw [if_neg (by simp), if_neg h1, if_neg h2]
    rw [e1]
    refine hc_callP (f := 115) [_, _, _] rfl rfl rfl EC.out ?_
    ((iterate 2 (refine Zm rfl rfl rfl rfl rfl ?_)); refine Zc rfl rfl rfl rfl rfl rfl rfl ?_; refine hx_nil ?_)
    refine PanicAt.mk rfl rfl .nil (give_panic 12 (decide_eq_false h2)) ?_
    rintro ch M ⟨rfl, rfl⟩
    repeat (with_reducible refine hq_panic_then ?_)
    refine hq_panD1 hI hF rfl EC.out (.cons .head .nil) (end_panic p _ _ _ 12 E g) ?_
    rintro u M ⟨rfl, rfl⟩
    exact ⟨_, _, rv_tmp rfl, ⟨rfl, rfl⟩, fun _ h => RdrX_shut (g := b) (c := c) h⟩
set_option maxHeartbeats 1000000 in
theorem u64_all : SpecI Tryz.prog (gl E) g 72 [.pointer (some ⟨p, 0, none⟩), .int .i64 most] [RdrX p bs at_ er]
    (fun u M => u = .int .i64 (U64R bs at_ er most).1 ∧ M = [RdrX p bs (U64R bs at_ er most).2.1 (U64R bs at_ er most).2.2]) := by
  refine specI_ofD Tryz.func72 rfl rfl (Nat.le_of_ble_eq_true rfl) (fun w F hI hF => ?_)
  refine hc_open .head RdrX_open ?_
  rintro ⟨nx, b, c⟩
  dsimp only
  refine hc_know (fun _ h => (h.perm (Pull.tail .head).perm).row_le.1) (fun hc => ?_)
  refine hc_seq ?_
  refine hc_lex ?_
  (refine Zn rfl rfl rfl rfl rfl ?_)
  refine hc_seq ?_
  refine hc_defer (f := 111) (l1 := [_]) rfl rfl rfl rfl ?_
  (refine Zm rfl rfl rfl rfl rfl ?_; refine hx_nil ?_)
  refine ⟨_, _, rfl, rfl, ?_⟩
  refine hq_then ?_
  refine hc_seq ?_
  refine hc_seq ?_
  refine hc_lex ?_
  (refine Zm rfl rfl rfl rfl rfl ?_; refine hx_plain rfl ?_)
  refine h_call rfl rfl rfl rfl rfl rfl rfl rfl EC.out (.cons .head .nil) (begin_spec p _ _ _ _) ?_
  rintro u M ⟨rfl, rfl⟩
  (refine Zt ?_)
  by_cases her : er = 0
  case neg =>
    have e1 : U64R bs at_ er most = (0, at_, er) := if_pos her
    rw [e1]
    (refine hc_condDF rfl (by omega) ?_; refine hc_skip ?_; refine hq_then ?_; refine Zw rfl rfl rfl rfl rfl ?_; refine Zn rfl rfl rfl rfl rfl ?_; refine hc_ret ?_)
    refine hq_retD1 (.inr rfl) rfl EC.out (.cons .head .nil) (end_err p _ _ _ er her) ?_
    rintro u M ⟨rfl, rfl⟩
    exact ⟨_, _, rv_tmp rfl, ⟨rfl, rfl⟩, fun _ h => RdrX_shut (g := b) (c := c) h⟩
  subst her
  refine hc_condDT rfl rfl ?_
  refine hc_seq ?_
  by_cases h1 : bs.length < at_ + 8
  · have e1 : U64R bs at_ 0 most = (0, at_, 11) := by unfold U64R; rw [if_neg (by simp), if_pos h1]
    rw [e1]
    refine hc_callP (f := 114) [_] rfl rfl rfl EC.out ?_
    (refine Zm rfl rfl rfl rfl rfl ?_; refine hx_nil ?_)
    refine PanicAt.mk rfl rfl (.cons .head (.cons .head .nil)) (take_panic p b c bs _ _ at_ 8 (by omega) hl (by omega)) ?_
    rintro ch M ⟨rfl, rfl⟩
    repeat (with_reducible refine hq_panic_then ?_)
    refine hq_panD1 hI hF rfl EC.out (.cons .head .nil) (end_panic p _ _ _ 11 E g) ?_
    rintro u M ⟨rfl, rfl⟩
    exact ⟨_, _, rv_tmp rfl, ⟨rfl, rfl⟩, fun _ h => RdrX_shut (g := b) (c := c) h⟩
  refine hc_lex ?_
  (refine Zm rfl rfl rfl rfl rfl ?_; refine hx_plain rfl ?_)
  refine h_call rfl rfl rfl rfl rfl rfl rfl rfl EC.out (.cons .head (.cons .head .nil)) (take_spec p b c bs _ _ at_ 8 (by omega) hc hl) ?_
  rintro u M ⟨rfl, rfl⟩
  (refine hx_plain rfl ?_)
  refine h_callRd rfl rfl rfl rfl rfl rfl EC.out (fun w' h => number_reads (h.rdSub (.tail .head) (by omega))) ?_
  (refine Zn rfl rfl rfl rfl rfl ?_)
  have eN : numR ((bs.drop at_).take 8) = N8 bs at_ := rfl
  rw [eN, show (at_ : Int) + ((8 : Nat) : Int) = ((at_ + 8 : Nat) : Int) by omega]
  refine hc_seq ?_
  by_cases h0 : 0 ≤ most
  · by_cases h2 : N8 bs at_ ≤ IntKind.u64.wrap most
    · have e1 : U64R bs at_ 0 most = (IntKind.i64.wrap (N8 bs at_), at_ + 8, 0) := by unfold U64R; rw [if_neg (by simp), if_neg h1, if_pos ⟨h0, h2⟩]
      rw [e1]
      (refine hc_lex ?_; refine Zm rfl rfl rfl rfl rfl ?_; refine Zc rfl rfl rfl rfl rfl rfl rfl ?_; refine Zm rfl rfl rfl rfl rfl ?_; refine hx_gT rfl rfl rfl (by omega) ?_; (iterate 2 (refine hx_yes rfl rfl rfl ?_; refine h_move rfl rfl rfl rfl ?_)); refine hx_yes rfl rfl rfl ?_; refine h_convInt rfl rfl UC.out UC.out rfl rfl ?_; refine hx_yes rfl rfl rfl ?_; refine h_cmp rfl rfl rfl rfl rfl rfl ?_; refine Zq rfl rfl rfl rfl rfl rfl ?_; refine hx_plain rfl ?_)
      rw [decide_eq_true h2]
      refine h_callR rfl rfl rfl rfl rfl rfl EC.out ((give_true 12).reads _) ?_
      (refine Zt ?_; refine hc_lex ?_; refine Zm rfl rfl rfl rfl rfl ?_; refine hx_plain rfl ?_; refine h_convInt rfl rfl UC.out UC.out rfl rfl ?_; refine Zn rfl rfl rfl rfl rfl ?_; refine Zw rfl rfl rfl rfl rfl ?_; refine Zn rfl rfl rfl rfl rfl ?_; refine hc_ret ?_)
      refine hq_retD1 (.inr rfl) rfl EC.out (.cons .head .nil) (end_spec p _ _ _) ?_
      rintro u M ⟨rfl, rfl⟩
      exact ⟨_, _, rv_tmp rfl, ⟨rfl, rfl⟩, fun _ h => RdrX_shut (g := b) (c := c) h⟩
    · have e1 : U64R bs at_ 0 most = (0, at_, 12) := by unfold U64R; rw [if_neg (by simp), if_neg h1, if_neg (fun h => h2 h.2)]
      rw [e1]
      refine hc_callP (f := 115) [_, _, _, _, _, _, _, _] rfl rfl rfl EC.out ?_
      (refine Zm rfl rfl rfl rfl rfl ?_; refine Zc rfl rfl rfl rfl rfl rfl rfl ?_; refine Zm rfl rfl rfl rfl rfl ?_; refine hx_gT rfl rfl rfl (by omega) ?_; (iterate 2 (refine hx_yes rfl rfl rfl ?_; refine h_move rfl rfl rfl rfl ?_)); refine hx_yes rfl rfl rfl ?_; refine h_convInt rfl rfl UC.out UC.out rfl rfl ?_; refine hx_yes rfl rfl rfl ?_; refine h_cmp rfl rfl rfl rfl rfl rfl ?_; refine Zq rfl rfl rfl rfl rfl rfl ?_; refine hx_nil ?_)
      refine PanicAt.mk rfl rfl .nil (give_panic 12 (decide_eq_false h2)) ?_
      rintro ch M ⟨rfl, rfl⟩
      repeat (with_reducible refine hq_panic_then ?_)
      refine hq_panD1 hI hF rfl EC.out (.cons .head .nil) (end_panic p _ _ _ 12 E g) ?_
      rintro u M ⟨rfl, rfl⟩
      exact ⟨_, _, rv_tmp rfl, ⟨rfl, rfl⟩, fun _ h => RdrX_shut (g := b) (c := c) h⟩
  · have e1 : U64R bs at_ 0 most = (0, at_, 12) := by unfold U64R; rw [if_neg (by simp), if_neg h1, if_neg (fun h => h0 h.1)]
    rw [e1]
    refine hc_callP (f := 115) [_, _, _, _, _, _, _, _] rfl rfl rfl EC.out ?_
    (refine Zm rfl rfl rfl rfl rfl ?_; refine Zc rfl rfl rfl rfl rfl rfl rfl ?_; refine Zm rfl rfl rfl rfl rfl ?_; refine hx_gF rfl rfl rfl (by omega) ?_; (iterate 4 (refine hx_skip rfl rfl rfl rfl rfl rfl ?_)); refine Zp rfl rfl rfl rfl rfl rfl ?_; refine hx_nil ?_)
    refine PanicAt.mk rfl rfl .nil (give_panic 12 rfl) ?_
    rintro ch M ⟨rfl, rfl⟩
    repeat (with_reducible refine hq_panic_then ?_)
    refine hq_panD1 hI hF rfl EC.out (.cons .head .nil) (end_panic p _ _ _ 12 E g) ?_
    rintro u M ⟨rfl, rfl⟩
    exact ⟨_, _, rv_tmp rfl, ⟨rfl, rfl⟩, fun _ h => RdrX_shut (g := b) (c := c) h⟩
set_option maxHeartbeats 1000000 in
theorem sum_all : SpecI Tryz.prog (gl E) g 110 [.pointer (some ⟨p, 0, none⟩)] [RdrX p bs at_ er]
    (fun u M => u = .int .u64 (SumR bs at_ er).1 ∧ M = [RdrX p bs (SumR bs at_ er).2.1 (SumR bs at_ er).2.2]) := by
  refine specI_ofD Tryz.func110 rfl rfl (Nat.le_of_ble_eq_true rfl) (fun w F hI hF => ?_)
  refine hc_open .head RdrX_open ?_
  rintro ⟨nx, b, c⟩
  dsimp only
  refine hc_know (fun _ h => (h.perm (Pull.tail .head).perm).row_le.1) (fun hc => ?_)
  refine hc_seq ?_
  refine hc_lex ?_
  (refine Zn rfl rfl rfl rfl rfl ?_)
  refine hc_seq ?_
  refine hc_defer (f := 111) (l1 := [_]) rfl rfl rfl rfl ?_
  (refine Zm rfl rfl rfl rfl rfl ?_; refine hx_nil ?_)
  refine ⟨_, _, rfl, rfl, ?_⟩
  refine hq_then ?_
  refine hc_seq ?_
  refine hc_seq ?_
  refine hc_lex ?_
  (refine Zm rfl rfl rfl rfl rfl ?_; refine hx_plain rfl ?_)
  refine h_call rfl rfl rfl rfl rfl rfl rfl rfl EC.out (.cons .head .nil) (begin_spec p _ _ _ _) ?_
  rintro u M ⟨rfl, rfl⟩
  (refine Zt ?_)
  by_cases her : er = 0
  case neg =>
    have e1 : SumR bs at_ er = (0, at_, er) := if_pos her
    rw [e1]
    (refine hc_condDF rfl (by omega) ?_; refine hc_skip ?_; refine hq_then ?_; refine Zw rfl rfl rfl rfl rfl ?_; refine Zn rfl rfl rfl rfl rfl ?_; refine hc_ret ?_)
    refine hq_retD1 (.inr rfl) rfl EC.out (.cons .head .nil) (end_err p _ _ _ er her) ?_
    rintro u M ⟨rfl, rfl⟩
    exact ⟨_, _, rv_tmp rfl, ⟨rfl, rfl⟩, fun _ h => RdrX_shut (g := b) (c := c) h⟩
  subst her
  refine hc_condDT rfl rfl ?_
  by_cases h1 : bs.length < at_ + 8
  · have e1 : SumR bs at_ 0 = (0, at_, 11) := by unfold SumR; rw [if_neg (by simp), if_pos h1]
    rw [e1]
    refine hc_callP (f := 114) [_] rfl rfl rfl EC.out ?_
    (refine Zm rfl rfl rfl rfl rfl ?_; refine hx_nil ?_)
    refine PanicAt.mk rfl rfl (.cons .head (.cons .head .nil)) (take_panic p b c bs _ _ at_ 8 (by omega) hl (by omega)) ?_
    rintro ch M ⟨rfl, rfl⟩
    repeat (with_reducible refine hq_panic_then ?_)
    refine hq_panD1 hI hF rfl EC.out (.cons .head .nil) (end_panic p _ _ _ 11 E g) ?_
    rintro u M ⟨rfl, rfl⟩
    exact ⟨_, _, rv_tmp rfl, ⟨rfl, rfl⟩, fun _ h => RdrX_shut (g := b) (c := c) h⟩
  have e1 : SumR bs at_ 0 = (N8 bs at_, at_ + 8, 0) := by unfold SumR; rw [if_neg (by simp), if_neg h1]
  rw [e1]
  refine hc_lex ?_
  (refine Zm rfl rfl rfl rfl rfl ?_; refine hx_plain rfl ?_)
  refine h_call rfl rfl rfl rfl rfl rfl rfl rfl EC.out (.cons .head (.cons .head .nil)) (take_spec p b c bs _ _ at_ 8 (by omega) hc hl) ?_
  rintro u M ⟨rfl, rfl⟩
  (refine hx_plain rfl ?_)
  refine h_callRd rfl rfl rfl rfl rfl rfl EC.out (fun w' h => number_reads (h.rdSub (.tail .head) (by omega))) ?_
  have eN : numR ((bs.drop at_).take 8) = N8 bs at_ := rfl
  rw [eN, show (at_ : Int) + ((8 : Nat) : Int) = ((at_ + 8 : Nat) : Int) by omega]
  (refine Zn rfl rfl rfl rfl rfl ?_; refine Zw rfl rfl rfl rfl rfl ?_; refine Zn rfl rfl rfl rfl rfl ?_; refine hc_ret ?_)
  refine hq_retD1 (.inr rfl) rfl EC.out (.cons .head .nil) (end_spec p _ _ _) ?_
  rintro u M ⟨rfl, rfl⟩
  exact ⟨_, _, rv_tmp rfl, ⟨rfl, rfl⟩, fun _ h => RdrX_shut (g := b) (c := c) h⟩
end
end Go.Proofs.YtfolhmlldoepfaaGreatDoor
namespace Go.Proofs.YtfolhmlldoepfaaGreatDoor
open Go Go.Proofs Go.RowKit
set_option maxRecDepth 4000
section
variable (p : Nat) (bs : List Int) (at_ : Nat) (er most : Int) (E : Addr) (g : Nat) (hl : bs.length ≤ 140737488355200) (hat : at_ ≤ bs.length)
include hl hat
set_option maxHeartbeats 1000000 in
theorem flag_all : SpecI Tryz.prog (gl E) g 196 [.pointer (some ⟨p, 0, none⟩)] [RdrX p bs at_ er]
    (fun u M => u = .bool (FlagR bs at_ er).1 ∧ M = [RdrX p bs (FlagR bs at_ er).2.1 (FlagR bs at_ er).2.2]) := by
  refine specI_ofD Tryz.func196 rfl rfl (Nat.le_of_ble_eq_true rfl) (fun w F hI hF => ?_)
  refine hc_open .head RdrX_open ?_
  rintro ⟨nx, b, c⟩
  dsimp only
  refine hc_know (fun _ h => (h.perm (Pull.tail .head).perm).row_le.1) (fun hc => ?_)
  refine hc_seq ?_
  refine hc_lex ?_
  (refine Zn rfl rfl rfl rfl rfl ?_)
  refine hc_seq ?_
  refine hc_defer (f := 111) (l1 := [_]) rfl rfl rfl rfl ?_
  (refine Zm rfl rfl rfl rfl rfl ?_; refine hx_nil ?_)
  refine ⟨_, _, rfl, rfl, ?_⟩
  refine hq_then ?_
  refine hc_seq ?_
  refine hc_seq ?_
  refine hc_lex ?_
  (refine Zm rfl rfl rfl rfl rfl ?_; refine hx_plain rfl ?_)
  refine h_call rfl rfl rfl rfl rfl rfl rfl rfl EC.out (.cons .head .nil) (begin_spec p _ _ _ _) ?_
  rintro u M ⟨rfl, rfl⟩
  (refine Zt ?_)
  by_cases her : er = 0
  case neg =>
    have e1 : FlagR bs at_ er  = (false, at_, er) := if_pos her
    rw [e1]
    (refine hc_condDF rfl (by omega) ?_; refine hc_skip ?_; refine hq_then ?_; refine Zw rfl rfl rfl rfl rfl ?_; refine Zn rfl rfl rfl rfl rfl ?_; refine hc_ret ?_)
    refine hq_retD1 (.inr rfl) rfl EC.out (.cons .head .nil) (end_err p _ _ _ er her) ?_
    rintro u M ⟨rfl, rfl⟩
    exact ⟨_, _, rv_tmp rfl, ⟨rfl, rfl⟩, fun _ h => RdrX_shut (g := b) (c := c) h⟩
  subst her
  refine hc_condDT rfl rfl ?_
  refine hc_seq ?_
  by_cases h1 : bs.length < at_ + 4
  · have e1 : FlagR bs at_ 0 = (false, at_, 11) := by unfold FlagR; rw [if_neg (by simp), if_pos h1]
    rw [e1]
    refine hc_callP (f := 114) [_] rfl rfl rfl EC.out ?_
    (refine Zm rfl rfl rfl rfl rfl ?_; refine hx_nil ?_)
    refine PanicAt.mk rfl rfl (.cons .head (.cons .head .nil)) (take_panic p b c bs _ _ at_ 4 (by omega) hl (by omega)) ?_
    rintro ch M ⟨rfl, rfl⟩
    repeat (with_reducible refine hq_panic_then ?_)
    refine hq_panD1 hI hF rfl EC.out (.cons .head .nil) (end_panic p _ _ _ 11 E g) ?_
    rintro u M ⟨rfl, rfl⟩
    exact ⟨_, _, rv_tmp rfl, ⟨rfl, rfl⟩, fun _ h => RdrX_shut (g := b) (c := c) h⟩
  refine hc_lex ?_
  (refine Zm rfl rfl rfl rfl rfl ?_; refine hx_plain rfl ?_)
  refine h_call rfl rfl rfl rfl rfl rfl rfl rfl EC.out (.cons .head (.cons .head .nil)) (take_spec p b c bs _ _ at_ 4 (by omega) hc hl) ?_
  rintro u M ⟨rfl, rfl⟩
  (refine hx_plain rfl ?_)
  refine h_callRd rfl rfl rfl rfl rfl rfl EC.out (fun w' h => number_reads (h.rdSub (.tail .head) (by omega))) ?_
  (refine Zn rfl rfl rfl rfl rfl ?_)
  obtain ⟨nn, eN⟩ : ∃ nn, numR ((bs.drop at_).take 4) = nn := ⟨_, rfl⟩
  rw [eN, show (at_ : Int) + ((4 : Nat) : Int) = ((at_ + 4 : Nat) : Int) by omega]
  refine hc_seq ?_
  by_cases h2 : nn ≤ 1
  · have e1 : FlagR bs at_ 0 = (decide (nn = 1), at_ + 4, 0) := by unfold FlagR; rw [if_neg (by simp), if_neg h1, eN, if_pos h2]
    rw [e1]
    (refine hc_lex ?_; refine Zm rfl rfl rfl rfl rfl ?_; refine Zc rfl rfl rfl rfl rfl rfl rfl ?_; refine hx_plain rfl ?_)
    rw [decide_eq_true h2]
    refine h_callR rfl rfl rfl rfl rfl rfl EC.out ((give_true 13).reads _) ?_
    (refine Zt ?_; refine hc_lex ?_; refine Zm rfl rfl rfl rfl rfl ?_; refine Zc rfl rfl rfl rfl rfl rfl rfl ?_; refine Zn rfl rfl rfl rfl rfl ?_; refine Zw rfl rfl rfl rfl rfl ?_; refine Zn rfl rfl rfl rfl rfl ?_; refine hc_ret ?_)
    refine hq_retD1 (.inr rfl) rfl EC.out (.cons .head .nil) (end_spec p _ _ _) ?_
    rintro u M ⟨rfl, rfl⟩
    exact ⟨_, _, rv_tmp rfl, ⟨rfl, rfl⟩, fun _ h => RdrX_shut (g := b) (c := c) h⟩
  · have e1 : FlagR bs at_ 0 = (false, at_, 13) := by unfold FlagR; rw [if_neg (by simp), if_neg h1, eN, if_neg h2]
    rw [e1]
    refine hc_callP (f := 115) [_, _] rfl rfl rfl EC.out ?_
    (refine Zm rfl rfl rfl rfl rfl ?_; refine Zc rfl rfl rfl rfl rfl rfl rfl ?_; refine hx_nil ?_)
    refine PanicAt.mk rfl rfl .nil (give_panic 13 (decide_eq_false h2)) ?_
    rintro ch M ⟨rfl, rfl⟩
    repeat (with_reducible refine hq_panic_then ?_)
    refine hq_panD1 hI hF rfl EC.out (.cons .head .nil) (end_panic p _ _ _ 13 E g) ?_
    rintro u M ⟨rfl, rfl⟩
    exact ⟨_, _, rv_tmp rfl, ⟨rfl, rfl⟩, fun _ h => RdrX_shut (g := b) (c := c) h⟩
set_option maxHeartbeats 1000000 in
theorem text_all (hb : Byts bs) : SpecI Tryz.prog (gl E) g 179 [.pointer (some ⟨p, 0, none⟩), .int .i64 most] [RdrX p bs at_ er]
    (fun u M => u = .string (strOf (BodyR bs at_ er most).1) ∧ M = [RdrX p bs (BodyR bs at_ er most).2.1 (BodyR bs at_ er most).2.2]) := by
  refine specI_ofD Tryz.func179 rfl rfl (Nat.le_of_ble_eq_true rfl) (fun w F hI hF => ?_)
  refine hc_open .head RdrX_open ?_
  rintro ⟨nx, b, c⟩
  dsimp only
  refine hc_know (fun _ h => (h.perm (Pull.tail .head).perm).row_le.1) (fun hc => ?_)
  refine hc_seq ?_
  refine hc_lex ?_
  (refine Zn rfl rfl rfl rfl rfl ?_)
  refine hc_seq ?_
  refine hc_defer (f := 111) (l1 := [_]) rfl rfl rfl rfl ?_
  (refine Zm rfl rfl rfl rfl rfl ?_; refine hx_nil ?_)
  refine ⟨_, _, rfl, rfl, ?_⟩
  refine hq_then ?_
  refine hc_seq ?_
  refine hc_seq ?_
  refine hc_lex ?_
  (refine Zm rfl rfl rfl rfl rfl ?_; refine hx_plain rfl ?_)
  refine h_call rfl rfl rfl rfl rfl rfl rfl rfl EC.out (.cons .head .nil) (begin_spec p _ _ _ _) ?_
  rintro u M ⟨rfl, rfl⟩
  (refine Zt ?_)
  by_cases her : er = 0
  case neg =>
    have e1 : BodyR bs at_ er most = ([], at_, er) := if_pos her
    rw [e1]
    (refine hc_condDF rfl (by omega) ?_; refine hc_skip ?_; refine hq_then ?_; refine Zw rfl rfl rfl rfl rfl ?_; refine Zn rfl rfl rfl rfl rfl ?_; refine hc_ret ?_)
    refine hq_retD1 (.inr rfl) rfl EC.out (.cons .head .nil) (end_err p _ _ _ er her) ?_
    rintro u M ⟨rfl, rfl⟩
    exact ⟨_, _, rv_tmp rfl, ⟨rfl, rfl⟩, fun _ h => RdrX_shut (g := b) (c := c) h⟩
  subst her
  refine hc_condDT rfl rfl ?_
  by_cases h1 : bodyE bs at_ most = 0
  case neg =>
    have e1 : BodyR bs at_ 0 most = ([], at_, bodyE bs at_ most) := by unfold BodyR; rw [if_neg (by simp), if_neg h1]
    rw [e1]
    refine hc_callP (f := 181) [_, _] rfl rfl rfl EC.out ?_
    ((iterate 2 (refine Zm rfl rfl rfl rfl rfl ?_)); refine hx_nil ?_)
    refine PanicAt.mk rfl rfl (.cons .head (.cons .head .nil)) (body_panic p b c bs at_ most hb hc hl hat h1) ?_
    rintro ch M ⟨rfl, nx2, rfl⟩
    repeat (with_reducible refine hq_panic_then ?_)
    refine hq_panD1 hI hF rfl EC.out (.cons .head .nil) (end_panic p _ _ _ (bodyE bs at_ most) E g) ?_
    rintro u M ⟨rfl, rfl⟩
    exact ⟨_, _, rv_tmp rfl, ⟨rfl, rfl⟩, fun _ h => RdrX_shut (g := b) (c := c) h⟩
  have e1 : BodyR bs at_ 0 most = ((bs.drop (at_ + 4)).take (NB bs at_), at_ + 4 + NB bs at_ + padN (NB bs at_), 0) := by unfold BodyR; rw [if_neg (by simp), if_pos h1]
  rw [e1]
  obtain ⟨k1, k2, k3, k4, k5⟩ := bodyE_ok h1
  have hlen : ((bs.drop (at_ + 4)).take (NB bs at_)).length = NB bs at_ := by rw [List.length_take, List.length_drop]; omega
  refine hc_lex ?_
  ((iterate 2 (refine Zm rfl rfl rfl rfl rfl ?_)); refine hx_plain rfl ?_)
  refine h_call rfl rfl rfl rfl rfl rfl rfl rfl EC.out (.cons .head (.cons .head .nil)) (body_ok p b c bs at_ most hb hc hl h1) ?_
  rintro u M ⟨rfl, rfl⟩
  (refine hx_plain rfl ?_)
  refine h_toString rfl rfl UC.out UC.out UC.out (fun w' h => h.rdSub (.tail .head) (by omega)) rfl rfl ?_
  (refine Zn rfl rfl rfl rfl rfl ?_; refine Zw rfl rfl rfl rfl rfl ?_; refine Zn rfl rfl rfl rfl rfl ?_; refine hc_ret ?_)
  refine hq_retD1 (.inr rfl) rfl EC.out (.cons .head .nil) (end_spec p _ _ _) ?_
  rintro u M ⟨rfl, rfl⟩
  exact ⟨_, _, rv_tmp rfl, ⟨rfl, rfl⟩, fun _ h => RdrX_shut (g := b) (c := c) h⟩
set_option maxHeartbeats 1000000 in
theorem bytes_all (hb : Byts bs) : SpecI Tryz.prog (gl E) g 186 [.pointer (some ⟨p, 0, none⟩), .int .i64 most] [RdrX p bs at_ er]
    (fun u M => M = [RowV byteE 5 u (BodyR bs at_ er most).1, RdrX p bs (BodyR bs at_ er most).2.1 (BodyR bs at_ er most).2.2]) := by
  refine specI_ofD Tryz.func186 rfl rfl (Nat.le_of_ble_eq_true rfl) (fun w F hI hF => ?_)
  refine hc_open .head RdrX_open ?_
  rintro ⟨nx, b, c⟩
  dsimp only
  refine hc_know (fun _ h => (h.perm (Pull.tail .head).perm).row_le.1) (fun hc => ?_)
  refine hc_seq ?_
  refine hc_lex ?_
  (refine Zn rfl rfl rfl rfl rfl ?_)
  refine hc_seq ?_
  refine hc_defer (f := 111) (l1 := [_]) rfl rfl rfl rfl ?_
  (refine Zm rfl rfl rfl rfl rfl ?_; refine hx_nil ?_)
  refine ⟨_, _, rfl, rfl, ?_⟩
  refine hq_then ?_
  refine hc_seq ?_
  refine hc_seq ?_
  refine hc_lex ?_
  (refine Zm rfl rfl rfl rfl rfl ?_; refine hx_plain rfl ?_)
  refine h_call rfl rfl rfl rfl rfl rfl rfl rfl EC.out (.cons .head .nil) (begin_spec p _ _ _ _) ?_
  rintro u M ⟨rfl, rfl⟩
  (refine Zt ?_)
  by_cases her : er = 0
  case neg =>
    have e1 : BodyR bs at_ er most = ([], at_, er) := if_pos her
    rw [e1]
    (refine hc_condDF rfl (by omega) ?_; refine hc_skip ?_; refine hq_then ?_; refine Zw rfl rfl rfl rfl rfl ?_; refine Zn rfl rfl rfl rfl rfl ?_; refine hc_ret ?_)
    refine hq_retD1 (.inr rfl) rfl EC.out (.cons .head .nil) (end_err p _ _ _ er her) ?_
    rintro u M ⟨rfl, rfl⟩
    exact ⟨_, _, rv_tmp rfl, rfl, fun _ h => St.rowV_nil (RdrX_shut (g := b) (c := c) h)⟩
  subst her
  refine hc_condDT rfl rfl ?_
  by_cases h1 : bodyE bs at_ most = 0
  case neg =>
    have e1 : BodyR bs at_ 0 most = ([], at_, bodyE bs at_ most) := by unfold BodyR; rw [if_neg (by simp), if_neg h1]
    rw [e1]
    refine hc_callP (f := 181) [_, _] rfl rfl rfl EC.out ?_
    ((iterate 2 (refine Zm rfl rfl rfl rfl rfl ?_)); refine hx_nil ?_)
    refine PanicAt.mk rfl rfl (.cons .head (.cons .head .nil)) (body_panic p b c bs at_ most hb hc hl hat h1) ?_
    rintro ch M ⟨rfl, nx2, rfl⟩
    repeat (with_reducible refine hq_panic_then ?_)
    refine hq_panD1 hI hF rfl EC.out (.cons .head .nil) (end_panic p _ _ _ (bodyE bs at_ most) E g) ?_
    rintro u M ⟨rfl, rfl⟩
    exact ⟨_, _, rv_tmp rfl, rfl, fun _ h => St.rowV_nil (RdrX_shut (g := b) (c := c) h)⟩
  have e1 : BodyR bs at_ 0 most = ((bs.drop (at_ + 4)).take (NB bs at_), at_ + 4 + NB bs at_ + padN (NB bs at_), 0) := by unfold BodyR; rw [if_neg (by simp), if_pos h1]
  rw [e1]
  obtain ⟨k1, k2, k3, k4, k5⟩ := bodyE_ok h1
  have hlen : ((bs.drop (at_ + 4)).take (NB bs at_)).length = NB bs at_ := by rw [List.length_take, List.length_drop]; omega
  refine hc_lex ?_
  ((iterate 2 (refine Zm rfl rfl rfl rfl rfl ?_)); refine hx_plain rfl ?_)
  refine h_call rfl rfl rfl rfl rfl rfl rfl rfl EC.out (.cons .head (.cons .head .nil)) (body_ok p b c bs at_ most hb hc hl h1) ?_
  rintro u M ⟨rfl, rfl⟩
  (refine hx_plain rfl ?_)
  refine h_callW (post := fun u M => ∃ g, u = .slice (some ⟨g, 0, none⟩) ((bs.drop (at_ + 4)).take (NB bs at_)).length (((bs.drop (at_ + 4)).take (NB bs at_)).length + 0) ∧ M = [Row byteE 5 g (((bs.drop (at_ + 4)).take (NB bs at_)).length + 0) ((bs.drop (at_ + 4)).take (NB bs at_))]) rfl rfl rfl rfl rfl rfl rfl rfl EC.out (fun w' h => fresh_makes 0 (h.rdSub (.tail .head) (by omega)) (by omega)) ?_
  rintro u M ⟨g2, rfl, rfl⟩
  (refine Zn rfl rfl rfl rfl rfl ?_; refine Zw rfl rfl rfl rfl rfl ?_; refine Zn rfl rfl rfl rfl rfl ?_; refine hc_ret ?_)
  refine hq_retD1 (.inr rfl) rfl EC.out (.cons (.tail .head) .nil) (end_spec p _ _ _) ?_
  rintro u M ⟨rfl, rfl⟩
  refine ⟨_, _, rv_tmp rfl, rfl, fun _ h => ?_⟩
  have h' := (h.perm (List.Perm.swap _ _ _)).rowV_mk
  refine (St.perm (List.Perm.swap _ _ _) ?_)
  exact RdrX_shut (g := b) (c := c) (h'.perm (by exact (List.Perm.swap _ _ _).trans ((List.Perm.swap _ _ _).cons _)))
end
section
variable (p : Nat) (bs : List Int) (at_ : Nat) (er : Int)
theorem err_spec : Spec Tryz.prog 73 [.pointer (some ⟨p, 0, none⟩)] [RdrX p bs at_ er] (fun u M => u = .tuple #[.int .i64 er, .int .i64 (at_ : Int)] ∧ M = [RdrX p bs at_ er]) := by
  refine spec_of Tryz.func73 rfl rfl (Nat.le_of_ble_eq_true rfl) (fun w F => ?_)
  refine hc_open .head RdrX_open ?_
  rintro ⟨nx, b, c⟩
  dsimp only
  unfold rdrB
  refine hc_seq ?_
  refine hc_lex ?_
  (refine Za rfl rfl rfl rfl rfl ?_; refine Zn rfl rfl rfl rfl rfl ?_)
  refine hc_seq ?_
  refine hc_drawO [0, 1, 2, 3, 8, 4, 5, 6, 7, 9] (fun _ => false) (by kernel_rfl) (by kernel_rfl) rfl ?_
  (refine Zm rfl rfl rfl rfl rfl ?_; refine hx_plain rfl ?_; refine h_nilCheck rfl rfl rfl rfl ?_; refine Zf rfl rfl rfl rfl rfl ?_; refine Zh rfl rfl rfl rfl rfl rfl rfl ?_; refine Za rfl rfl rfl rfl rfl ?_; refine Zm rfl rfl rfl rfl rfl ?_; refine hx_plain rfl ?_; refine h_nilCheck rfl rfl rfl rfl ?_; refine Zf rfl rfl rfl rfl rfl ?_; refine Zh rfl rfl rfl rfl rfl rfl rfl ?_; refine Zn rfl rfl rfl rfl rfl ?_; refine hc_ret ?_)
  exact hq_ret2 (.inr rfl) rfl rfl rfl ⟨rfl, rfl⟩ (fun _ h => RdrX_shut (g := b) (c := c) h)
def CloseR (bs : List Int) (at_ : Nat) (er : Int) : Int := if er = 0 ∧ at_ < bs.length then 16 else er
theorem close_spec : Spec Tryz.prog 74 [.pointer (some ⟨p, 0, none⟩)] [RdrX p bs at_ er] (fun u M => u = .int .i64 (CloseR bs at_ er) ∧ M = [RdrX p bs at_ (CloseR bs at_ er)]) := by
  refine spec_of Tryz.func74 rfl rfl (Nat.le_of_ble_eq_true rfl) (fun w F => ?_)
  refine hc_open .head RdrX_open ?_
  rintro ⟨nx, b, c⟩
  dsimp only
  unfold rdrB
  by_cases h0 : er = 0
  · subst h0
    by_cases h1 : at_ < bs.length
    · have e1 : CloseR bs at_ 0 = 16 := if_pos ⟨rfl, h1⟩
      rw [e1]
      (refine Zx rfl rfl rfl rfl rfl ?_; (iterate 2 (refine hc_seq ?_)); refine hc_draw0 (by kernel_rfl) (by kernel_rfl) ?_; refine Zm rfl rfl rfl rfl rfl ?_; refine hx_plain rfl ?_; refine h_nilCheck rfl rfl rfl rfl ?_; refine Zf rfl rfl rfl rfl rfl ?_; refine Zh rfl rfl rfl rfl rfl rfl rfl ?_; refine Zc rfl rfl rfl rfl rfl rfl rfl ?_; refine Zm rfl rfl rfl rfl rfl ?_; (iterate 2 (refine hx_yes rfl rfl rfl ?_; refine h_move rfl rfl rfl rfl ?_; refine hx_yes rfl rfl rfl ?_; refine h_nilCheck rfl rfl rfl rfl ?_; refine hx_yes rfl rfl rfl ?_; refine h_fieldAddr0 rfl rfl FC.out rfl rfl ?_; refine hx_yes rfl rfl rfl ?_; refine h_load rfl rfl UC.out rfl .head rfl rfl rfl ?_)); refine hx_yes rfl rfl rfl ?_; refine h_len_slice rfl rfl rfl UC.out rfl rfl rfl ?_; refine hx_yes rfl rfl rfl ?_; refine h_cmp rfl rfl rfl rfl rfl rfl ?_; refine Zq rfl rfl rfl rfl rfl rfl ?_; refine Zt ?_; refine hc_condDT rfl (by omega) ?_; refine hc_lex ?_; refine Zm rfl rfl rfl rfl rfl ?_; refine hx_plain rfl ?_; refine h_nilCheck rfl rfl rfl rfl ?_; refine Zf rfl rfl rfl rfl rfl ?_; refine hx_plain rfl ?_; refine h_store rfl rfl rfl rfl rfl rfl IC.size .head rfl rfl (Nat.le_of_ble_eq_true rfl) (List.all_eq_true.1 rfl) ?_; refine Zt ?_; refine Zw rfl rfl rfl rfl rfl ?_; refine hx_plain rfl ?_; refine h_nilCheck rfl rfl rfl rfl ?_; refine Zf rfl rfl rfl rfl rfl ?_; refine Zh rfl rfl rfl rfl rfl rfl rfl ?_; refine Zn rfl rfl rfl rfl rfl ?_; refine hc_ret ?_)
      exact hq_ret1 (.inr rfl) rfl rfl ⟨rfl, rfl⟩ (fun _ h => RdrX_shut (g := b) (c := c) h)
    · have e1 : CloseR bs at_ 0 = 0 := if_neg (fun h => h1 h.2)
      rw [e1]
      (refine Zx rfl rfl rfl rfl rfl ?_; (iterate 2 (refine hc_seq ?_)); refine hc_draw0 (by kernel_rfl) (by kernel_rfl) ?_; refine Zm rfl rfl rfl rfl rfl ?_; refine hx_plain rfl ?_; refine h_nilCheck rfl rfl rfl rfl ?_; refine Zf rfl rfl rfl rfl rfl ?_; refine Zh rfl rfl rfl rfl rfl rfl rfl ?_; refine Zc rfl rfl rfl rfl rfl rfl rfl ?_; refine Zm rfl rfl rfl rfl rfl ?_; (iterate 2 (refine hx_yes rfl rfl rfl ?_; refine h_move rfl rfl rfl rfl ?_; refine hx_yes rfl rfl rfl ?_; refine h_nilCheck rfl rfl rfl rfl ?_; refine hx_yes rfl rfl rfl ?_; refine h_fieldAddr0 rfl rfl FC.out rfl rfl ?_; refine hx_yes rfl rfl rfl ?_; refine h_load rfl rfl UC.out rfl .head rfl rfl rfl ?_)); refine hx_yes rfl rfl rfl ?_; refine h_len_slice rfl rfl rfl UC.out rfl rfl rfl ?_; refine hx_yes rfl rfl rfl ?_; refine h_cmp rfl rfl rfl rfl rfl rfl ?_; refine Zq rfl rfl rfl rfl rfl rfl ?_; refine Zt ?_; refine hc_condDF rfl (by omega) ?_; refine hc_skip ?_; refine hq_then ?_; refine Zw rfl rfl rfl rfl rfl ?_; refine hx_plain rfl ?_; refine h_nilCheck rfl rfl rfl rfl ?_; refine Zf rfl rfl rfl rfl rfl ?_; refine Zh rfl rfl rfl rfl rfl rfl rfl ?_; refine Zn rfl rfl rfl rfl rfl ?_; refine hc_ret ?_)
      exact hq_ret1 (.inr rfl) rfl rfl ⟨rfl, rfl⟩ (fun _ h => RdrX_shut (g := b) (c := c) h)
  · have e1 : CloseR bs at_ er = er := if_neg (fun h => h0 h.1)
    rw [e1]
    (refine Zx rfl rfl rfl rfl rfl ?_; (iterate 2 (refine hc_seq ?_)); refine hc_draw0 (by kernel_rfl) (by kernel_rfl) ?_; refine Zm rfl rfl rfl rfl rfl ?_; refine hx_plain rfl ?_; refine h_nilCheck rfl rfl rfl rfl ?_; refine Zf rfl rfl rfl rfl rfl ?_; refine Zh rfl rfl rfl rfl rfl rfl rfl ?_; refine Zc rfl rfl rfl rfl rfl rfl rfl ?_; refine Zm rfl rfl rfl rfl rfl ?_; refine hx_gF rfl rfl rfl (by omega) ?_; (iterate 10 (refine hx_skip rfl rfl rfl rfl rfl rfl ?_)); refine Zp rfl rfl rfl rfl rfl rfl ?_; refine Zt ?_; refine hc_condF rfl ?_; refine hc_skip ?_; refine hq_then ?_; refine Zw rfl rfl rfl rfl rfl ?_; refine hx_plain rfl ?_; refine h_nilCheck rfl rfl rfl rfl ?_; refine Zf rfl rfl rfl rfl rfl ?_; refine Zh rfl rfl rfl rfl rfl rfl rfl ?_; refine Zn rfl rfl rfl rfl rfl ?_; refine hc_ret ?_)
    exact hq_ret1 (.inr rfl) rfl rfl ⟨rfl, rfl⟩ (fun _ h => RdrX_shut (g := b) (c := c) h)
end
end Go.Proofs.YtfolhmlldoepfaaGreatDoor
namespace Go.Proofs.YtfolhmlldoepfaaGreatDoor
open Go Go.Proofs
set_option maxRecDepth 4000
theorem take_succ1 {α : Type} {l : List α} {i : Nat} (h : i < l.length) : l.take (i + 1) = l.take i ++ [l[i]] := List.take_succ_eq_append_getElem h
set_option maxHeartbeats 1000000 in
theorem bytes_makes {bs : List Int} {w : World} {v : Value} (h1 : Rd byteE w v bs) (hl : bs.length ≤ 140737488355200) :
    Makes Tryz.prog 44 [v] w (fun u M => M = [RowV byteE 5 u bs]) := by
  obtain ⟨a1, c1, rfl, l1, m1, k1⟩ := h1
  refine makes_of Tryz.func44 rfl rfl (Nat.le_of_ble_eq_true rfl) ?_
  ((iterate 2 (refine Zx rfl rfl rfl rfl rfl ?_)); refine hc_seq ?_; refine Zx rfl rfl rfl rfl rfl ?_; refine hc_block ?_)
  refine hc_cut (id := 0) (Y := Value) (fun v => [(3, v)]) (fun v => [RowV byteE 5 v bs]) (fun _ => True) ?_ ?_
  · refine hc_loop (X := Nat × Value) (fun x => [(0, .slice a1 bs.length c1), (3, x.2), (4, .int .i64 (x.1 : Int))]) (fun x => [RowV byteE 5 x.2 (bs.take x.1)]) (fun x => x.1 ≤ bs.length) (fun x => bs.length - x.1) (0, .slice none 0 0) (.cons rfl (.cons rfl (.cons rfl .nil))) (Nat.zero_le _) (fun _ h => St.rowV_nil h) ?_
    rintro ⟨i, v⟩ hi
    dsimp only at hi ⊢
    by_cases hlt : i < bs.length
    · have hps : bs ≠ [] := by
        intro e
        rw [e] at hlt
        exact absurd hlt (Nat.not_lt_zero _)
      obtain ⟨g1, o1, rfl, r1⟩ := k1.resolve_left hps
      clear k1
      have e1 : bs[((i : Nat) : Int).toNat]? = some bs[i] := List.getElem?_eq_getElem hlt
      have hlen : (bs.take i).length = i := by rw [List.length_take]; omega
      (refine hc_seq ?_; refine Zw rfl rfl rfl rfl rfl ?_; refine Zm rfl rfl rfl rfl rfl ?_; refine hx_plain rfl ?_; refine h_len_slice rfl rfl rfl UC.out rfl rfl rfl ?_; refine Zc rfl rfl rfl rfl rfl rfl rfl ?_; refine Zt ?_; refine hc_condDT rfl (by omega) ?_; refine hc_skip ?_; refine hq_then ?_; refine hc_seq ?_; refine hc_block ?_; refine hc_lex ?_; (iterate 3 (refine Zm rfl rfl rfl rfl rfl ?_)); refine hx_plain rfl ?_; refine h_indexAddr rfl rfl rfl UC.out IC.size (by omega) (by omega) rfl rfl ?_; refine hx_plain rfl ?_; refine h_rdLoad1 rfl r1 rfl UC.out rfl (by with_reducible assumption) rfl rfl rfl ?_; refine hx_plain rfl ?_; (refine h_buildSlice rfl rfl rfl UC.out IC.size IC.zero rfl rfl (by intro v hv; simp at hv; first | (subst hv; rfl) | (rcases hv with rfl | rfl <;> rfl) | (rcases hv with rfl | rfl | rfl <;> rfl)) (by omega) rfl rfl (fun _ => ?_)); refine hx_plain rfl ?_)
      refine h_append (m := 1) (E := byteE) (T := 5) (xs := bs.take i) (ys := [bs[i]]) rfl rfl rfl rfl rfl UC.out IC.out rfl (.cons (.tail .head) (.cons .head .nil)) rfl (one_row byteE _) (by unfold maxLen; omega) (by omega) rfl rfl (fun v' _ => ?_)
      (refine Za rfl rfl rfl rfl rfl ?_; refine hx_nil ?_; refine hq_norm_block ?_; refine hq_then ?_; refine hc_lex ?_; refine Zm rfl rfl rfl rfl rfl ?_; refine hx_plain rfl ?_; refine h_arithI rfl rfl rfl rfl (by omega) rfl rfl ?_; refine Za rfl rfl rfl rfl rfl ?_; refine hx_nil ?_)
      refine hq_round (i + 1, v') (by show bs.length - (i + 1) < bs.length - i; omega) (by show i + 1 ≤ bs.length; omega) (.cons rfl (.cons rfl (.cons rfl .nil))) (fun _ h => ?_)
      show St w nowhere [RowV byteE 5 v' (bs.take (i + 1))] _
      rw [take_succ1 hlt]
      exact h.sub (.cons .head .nil)
    · (refine hc_seq ?_; refine Zw rfl rfl rfl rfl rfl ?_; refine Zm rfl rfl rfl rfl rfl ?_; refine hx_plain rfl ?_; refine h_len_slice rfl rfl rfl UC.out rfl rfl rfl ?_; refine Zc rfl rfl rfl rfl rfl rfl rfl ?_; refine Zt ?_; refine hc_condDF rfl (by omega) ?_; refine hc_exit ?_; (iterate 2 (refine hq_exit_then ?_)))
      refine hq_cut v trivial (.cons rfl .nil) (fun _ h => ?_)
      rw [List.take_of_length_le (by omega)] at h
      exact h
  · rintro v _
    (refine hq_exit_block ?_; refine hq_then ?_; refine Zw rfl rfl rfl rfl rfl ?_; refine Zn rfl rfl rfl rfl rfl ?_; refine hc_ret ?_)
    refine hq_ret1 (.inr rfl) rfl rfl rfl (fun _ h => h)
set_option maxHeartbeats 1000000 in
theorem join_makes {xs ys : List Int} {w : World} {v1 v2 : Value} (h1 : Rd byteE w v1 xs) (h2 : Rd byteE w v2 ys) (hl : xs.length + ys.length ≤ 140737488355200) :
    Makes Tryz.prog 130 [v1, v2] w (fun u M => M = [RowV byteE 5 u (xs ++ ys)]) := by
  obtain ⟨a1, c1, rfl, l1, m1, k1⟩ := h2
  refine makes_of Tryz.func130 rfl rfl (Nat.le_of_ble_eq_true rfl) ?_
  (refine Zx rfl rfl rfl rfl rfl ?_; refine Zw rfl rfl rfl rfl rfl ?_; refine hx_plain rfl ?_)
  refine h_callW (post := fun u M => M = [RowV byteE 5 u xs]) rfl rfl rfl rfl rfl rfl rfl rfl EC.out (fun w' h => bytes_makes (h.rd h1) (by omega)) ?_
  rintro v0 M rfl
  (refine Zn rfl rfl rfl rfl rfl ?_; refine hc_seq ?_; refine Zx rfl rfl rfl rfl rfl ?_; refine hc_block ?_)
  refine hc_cut (id := 0) (Y := Value) (fun v => [(5, v)]) (fun v => [RowV byteE 5 v (xs ++ ys)]) (fun _ => True) ?_ ?_
  · refine hc_loop (X := Nat × Value) (fun x => [(1, .slice a1 ys.length c1), (5, x.2), (6, .int .i64 (x.1 : Int))]) (fun x => [RowV byteE 5 x.2 (xs ++ ys.take x.1)]) (fun x => x.1 ≤ ys.length) (fun x => ys.length - x.1) (0, v0) (.cons rfl (.cons rfl (.cons rfl .nil))) (Nat.zero_le _) (fun _ h => by rw [List.take_zero, List.append_nil]; exact h) ?_
    rintro ⟨i, v⟩ hi
    dsimp only at hi ⊢
    by_cases hlt : i < ys.length
    · have hps : ys ≠ [] := by
        intro e
        rw [e] at hlt
        exact absurd hlt (Nat.not_lt_zero _)
      obtain ⟨g1, o1, rfl, r1⟩ := k1.resolve_left hps
      clear k1
      have e1 : ys[((i : Nat) : Int).toNat]? = some ys[i] := List.getElem?_eq_getElem hlt
      have hlen : (xs ++ ys.take i).length = xs.length + i := by rw [List.length_append, List.length_take]; omega
      (refine hc_seq ?_; refine Zw rfl rfl rfl rfl rfl ?_; refine Zm rfl rfl rfl rfl rfl ?_; refine hx_plain rfl ?_; refine h_len_slice rfl rfl rfl UC.out rfl rfl rfl ?_; refine Zc rfl rfl rfl rfl rfl rfl rfl ?_; refine Zt ?_; refine hc_condDT rfl (by omega) ?_; refine hc_skip ?_; refine hq_then ?_; refine hc_seq ?_; refine hc_block ?_; refine hc_lex ?_; (iterate 3 (refine Zm rfl rfl rfl rfl rfl ?_)); refine hx_plain rfl ?_; refine h_indexAddr rfl rfl rfl UC.out IC.size (by omega) (by omega) rfl rfl ?_; refine hx_plain rfl ?_; refine h_rdLoad1 rfl r1 rfl UC.out rfl (by with_reducible assumption) rfl rfl rfl ?_; refine hx_plain rfl ?_; (refine h_buildSlice rfl rfl rfl UC.out IC.size IC.zero rfl rfl (by intro v hv; simp at hv; first | (subst hv; rfl) | (rcases hv with rfl | rfl <;> rfl) | (rcases hv with rfl | rfl | rfl <;> rfl)) (by omega) rfl rfl (fun _ => ?_)); refine hx_plain rfl ?_)
      refine h_append (m := 1) (E := byteE) (T := 5) (xs := xs ++ ys.take i) (ys := [ys[i]]) rfl rfl rfl rfl rfl UC.out IC.out rfl (.cons (.tail .head) (.cons .head .nil)) rfl (one_row byteE _) (by unfold maxLen; omega) (by omega) rfl rfl (fun v' _ => ?_)
      (refine Za rfl rfl rfl rfl rfl ?_; refine hx_nil ?_; refine hq_norm_block ?_; refine hq_then ?_; refine hc_lex ?_; refine Zm rfl rfl rfl rfl rfl ?_; refine hx_plain rfl ?_; refine h_arithI rfl rfl rfl rfl (by omega) rfl rfl ?_; refine Za rfl rfl rfl rfl rfl ?_; refine hx_nil ?_)
      refine hq_round (i + 1, v') (by show ys.length - (i + 1) < ys.length - i; omega) (by show i + 1 ≤ ys.length; omega) (.cons rfl (.cons rfl (.cons rfl .nil))) (fun _ h => ?_)
      show St w nowhere [RowV byteE 5 v' (xs ++ ys.take (i + 1))] _
      rw [take_succ1 hlt, ← List.append_assoc]
      exact h.sub (.cons .head .nil)
    · (refine hc_seq ?_; refine Zw rfl rfl rfl rfl rfl ?_; refine Zm rfl rfl rfl rfl rfl ?_; refine hx_plain rfl ?_; refine h_len_slice rfl rfl rfl UC.out rfl rfl rfl ?_; refine Zc rfl rfl rfl rfl rfl rfl rfl ?_; refine Zt ?_; refine hc_condDF rfl (by omega) ?_; refine hc_exit ?_; (iterate 2 (refine hq_exit_then ?_)))
      refine hq_cut v trivial (.cons rfl .nil) (fun _ h => ?_)
      rw [List.take_of_length_le (by omega)] at h
      exact h
  · rintro v _
    (refine hq_exit_block ?_; refine hq_then ?_; refine Zw rfl rfl rfl rfl rfl ?_; refine Zn rfl rfl rfl rfl rfl ?_; refine hc_ret ?_)
    refine hq_ret1 (.inr rfl) rfl rfl rfl (fun _ h => h)
set_option maxHeartbeats 1000000 in
theorem zeros_makes {w : World} (n : Nat) (hl : n ≤ 140737488355200) :
    Makes Tryz.prog 137 [.int .i64 (n : Int)] w (fun u M => M = [RowV byteE 5 u (List.replicate n 0)]) := by
  refine makes_of Tryz.func137 rfl rfl (Nat.le_of_ble_eq_true rfl) ?_
  ((iterate 2 (refine Zx rfl rfl rfl rfl rfl ?_)); refine hc_seq ?_; refine Zx rfl rfl rfl rfl rfl ?_; refine hc_block ?_)
  refine hc_cut (id := 0) (Y := Value) (fun v => [(3, v)]) (fun v => [RowV byteE 5 v (List.replicate n 0)]) (fun _ => True) ?_ ?_
  · refine hc_loop (X := Nat × Value) (fun x => [(0, .int .i64 (n : Int)), (3, x.2), (4, .int .i64 (x.1 : Int))]) (fun x => [RowV byteE 5 x.2 (List.replicate x.1 0)]) (fun x => x.1 ≤ n) (fun x => n - x.1) (0, .slice none 0 0) (.cons rfl (.cons rfl (.cons rfl .nil))) (Nat.zero_le _) (fun _ h => St.rowV_nil h) ?_
    rintro ⟨i, v⟩ hi
    dsimp only at hi ⊢
    have hlen : (List.replicate i (0 : Int)).length = i := List.length_replicate
    by_cases hlt : i < n
    · (refine hc_seq ?_; refine Zw rfl rfl rfl rfl rfl ?_; refine Zm rfl rfl rfl rfl rfl ?_; refine Zc rfl rfl rfl rfl rfl rfl rfl ?_; refine Zt ?_; refine hc_condDT rfl (by omega) ?_; refine hc_skip ?_; refine hq_then ?_; refine hc_seq ?_; refine hc_block ?_; refine hc_lex ?_; refine Zm rfl rfl rfl rfl rfl ?_; refine hx_plain rfl ?_; (refine h_buildSlice rfl rfl rfl UC.out IC.size IC.zero rfl rfl (by intro v hv; simp at hv; first | (subst hv; rfl) | (rcases hv with rfl | rfl <;> rfl) | (rcases hv with rfl | rfl | rfl <;> rfl)) (by omega) rfl rfl (fun _ => ?_)); refine hx_plain rfl ?_)
      refine h_append (m := 1) (E := byteE) (T := 5) (xs := List.replicate i 0) (ys := [0]) rfl rfl rfl rfl rfl UC.out IC.out rfl (.cons (.tail .head) (.cons .head .nil)) rfl (one_row byteE _) (by unfold maxLen; omega) (by omega) rfl rfl (fun v' _ => ?_)
      (refine Za rfl rfl rfl rfl rfl ?_; refine hx_nil ?_; refine hq_norm_block ?_; refine hq_then ?_; refine hc_lex ?_; refine Zm rfl rfl rfl rfl rfl ?_; refine hx_plain rfl ?_; refine h_arithI rfl rfl rfl rfl (by omega) rfl rfl ?_; refine Za rfl rfl rfl rfl rfl ?_; refine hx_nil ?_)
      refine hq_round (i + 1, v') (by show n - (i + 1) < n - i; omega) (by show i + 1 ≤ n; omega) (.cons rfl (.cons rfl (.cons rfl .nil))) (fun _ h => ?_)
      show St w nowhere [RowV byteE 5 v' (List.replicate (i + 1) 0)] _
      rw [List.replicate_succ']
      exact h.sub (.cons .head .nil)
    · obtain rfl : i = n := by omega
      (refine hc_seq ?_; refine Zw rfl rfl rfl rfl rfl ?_; refine Zm rfl rfl rfl rfl rfl ?_; refine Zc rfl rfl rfl rfl rfl rfl rfl ?_; refine Zt ?_; refine hc_condDF rfl (by omega) ?_; refine hc_exit ?_; (iterate 2 (refine hq_exit_then ?_)))
      exact hq_cut v trivial (.cons rfl .nil) (fun _ h => h)
  · rintro v _
    (refine hq_exit_block ?_; refine hq_then ?_; refine Zw rfl rfl rfl rfl rfl ?_; refine Zn rfl rfl rfl rfl rfl ?_; refine hc_ret ?_)
    refine hq_ret1 (.inr rfl) rfl rfl rfl (fun _ h => h)
set_option maxHeartbeats 1000000 in
theorem sameBytes {xs ys : List Int} {w : World} {v1 v2 : Value} (h1 : Rd byteE w v1 xs) (h2 : Rd byteE w v2 ys) :
    Calls Tryz.prog 16 [v1, v2].toArray w (fun en w' => en = .returned (.bool (decide (xs = ys))) ∧ But w w' nowhere) := by
  obtain ⟨a1, c1, rfl, l1, m1, k1⟩ := h1
  obtain ⟨a2, c2, rfl, l2, m2, k2⟩ := h2
  unfold maxLen at m1 m2
  refine reads_of Tryz.func16 rfl rfl (Nat.le_of_ble_eq_true rfl) ?_
  by_cases hlen : xs.length = ys.length
  · by_cases hx : xs = []
    · have hy : ys = [] := List.eq_nil_of_length_eq_zero (by rw [← hlen, hx]; rfl)
      subst hx hy
      (refine Zx rfl rfl rfl rfl rfl ?_; refine hc_seq ?_; refine Zw rfl rfl rfl rfl rfl ?_; refine hx_plain rfl ?_; refine h_len_slice rfl rfl rfl UC.out rfl rfl rfl ?_; refine Zm rfl rfl rfl rfl rfl ?_; refine hx_plain rfl ?_; refine h_len_slice rfl rfl rfl UC.out rfl rfl rfl ?_; refine Zc rfl rfl rfl rfl rfl rfl rfl ?_; refine Zt ?_; refine hc_condF rfl ?_; refine hc_skip ?_; refine hq_then ?_; refine hc_seq ?_; refine Zx rfl rfl rfl rfl rfl ?_; refine hc_block ?_)
      refine hc_loop (X := Nat) (fun i => [(0, .slice a1 0 c1), (5, .int .i64 (i : Int))]) (fun _ => []) (fun i => i = 0) (fun _ => 0) 0 (.cons rfl (.cons rfl .nil)) rfl (fun _ h => h) ?_
      rintro i rfl
      (refine hc_seq ?_; refine Zw rfl rfl rfl rfl rfl ?_; refine Zm rfl rfl rfl rfl rfl ?_; refine hx_plain rfl ?_; refine h_len_slice rfl rfl rfl UC.out rfl rfl rfl ?_; refine Zc rfl rfl rfl rfl rfl rfl rfl ?_; refine Zt ?_; refine hc_condF rfl ?_; refine hc_exit ?_; (iterate 2 (refine hq_exit_then ?_)); refine hq_exit_block ?_; refine hq_then ?_; refine Zx rfl rfl rfl rfl rfl ?_; refine hc_ret ?_)
      refine hq_ret1 (.inr rfl) rfl rfl ⟨by simp, rfl⟩ (fun _ h => h.emp)
    · have hy : ys ≠ [] := fun e => hx (List.eq_nil_of_length_eq_zero (by rw [hlen, e]; rfl))
      obtain ⟨g1, o1, rfl, r1⟩ := k1.resolve_left hx
      obtain ⟨g2, o2, rfl, r2⟩ := k2.resolve_left hy
      clear k1 k2 hx hy
      (refine Zx rfl rfl rfl rfl rfl ?_; refine hc_seq ?_; refine Zw rfl rfl rfl rfl rfl ?_; refine hx_plain rfl ?_; refine h_len_slice rfl rfl rfl UC.out rfl rfl rfl ?_; refine Zm rfl rfl rfl rfl rfl ?_; refine hx_plain rfl ?_; refine h_len_slice rfl rfl rfl UC.out rfl rfl rfl ?_; refine Zc rfl rfl rfl rfl rfl rfl rfl ?_; refine Zt ?_; refine hc_condDF rfl (by omega) ?_; refine hc_skip ?_; refine hq_then ?_; refine hc_seq ?_; refine Zx rfl rfl rfl rfl rfl ?_; refine hc_block ?_)
      refine hc_loop (X := Nat) (fun i => [(0, .slice (some ⟨g1, o1, none⟩) xs.length c1), (1, .slice (some ⟨g2, o2, none⟩) ys.length c2), (5, .int .i64 (i : Int))]) (fun _ => []) (fun i => i ≤ xs.length ∧ ∀ j, j < i → xs[j]? = ys[j]?) (fun i => xs.length - i) 0 (.cons rfl (.cons rfl (.cons rfl .nil))) ⟨Nat.zero_le _, fun j hj => absurd hj (Nat.not_lt_zero j)⟩ (fun _ h => h) ?_
      rintro i ⟨hi, he⟩
      by_cases hlt : i < xs.length
      · have e1 : xs[((i : Nat) : Int).toNat]? = some xs[i] := List.getElem?_eq_getElem hlt
        have e2 : ys[((i : Nat) : Int).toNat]? = some (ys[i]'(by omega)) := List.getElem?_eq_getElem (by omega)
        (refine hc_seq ?_; refine Zw rfl rfl rfl rfl rfl ?_; refine Zm rfl rfl rfl rfl rfl ?_; refine hx_plain rfl ?_; refine h_len_slice rfl rfl rfl UC.out rfl rfl rfl ?_; refine Zc rfl rfl rfl rfl rfl rfl rfl ?_; refine Zt ?_; refine hc_condDT rfl (by omega) ?_; refine hc_skip ?_; refine hq_then ?_; refine hc_seq ?_; refine hc_block ?_; refine hc_seq ?_; refine hc_draw0 (by kernel_rfl) (by kernel_rfl) ?_; (iterate 2 (refine Zm rfl rfl rfl rfl rfl ?_)); refine hx_plain rfl ?_; refine h_indexAddr rfl rfl rfl UC.out IC.size (by omega) (by omega) rfl rfl ?_; refine hx_plain rfl ?_; refine h_rdLoad1 rfl r1 rfl UC.out rfl (by with_reducible assumption) rfl rfl rfl ?_; (iterate 2 (refine Zm rfl rfl rfl rfl rfl ?_)); refine hx_plain rfl ?_; refine h_indexAddr rfl rfl rfl UC.out IC.size (by omega) (by omega) rfl rfl ?_; refine hx_plain rfl ?_; refine h_rdLoad1 rfl r2 rfl UC.out rfl (by with_reducible assumption) rfl rfl rfl ?_; refine Zc rfl rfl rfl rfl rfl rfl rfl ?_; refine Zt ?_; refine hc_condD rfl (fun hc => ?_) (fun hc => ?_); refine Zx rfl rfl rfl rfl rfl ?_; refine hc_ret ?_; refine hq_ret_block ?_; (iterate 2 (refine hq_ret_then ?_)); refine hq_ret_block ?_; refine hq_ret_then ?_; rotate_left; refine hc_skip ?_; refine hq_norm_block ?_; refine hq_then ?_; refine hc_lex ?_; refine Zm rfl rfl rfl rfl rfl ?_; refine hx_plain rfl ?_; refine h_arithI rfl rfl rfl rfl (by omega) rfl rfl ?_; refine Za rfl rfl rfl rfl rfl ?_; refine hx_nil ?_; rotate_left)
        · refine hq_ret1 (.inr rfl) rfl rfl ⟨?_, rfl⟩ (fun _ h => h.emp)
          rw [decide_eq_false (fun e => hc (by simp only [e]))]
        · have hc' : xs[i] = ys[i]'(by omega) := by simpa using hc
          refine hq_round (i + 1) (by omega) ⟨by omega, fun j hj => ?_⟩ (.cons rfl (.cons rfl (.cons (by show some _ = some _; congr 2) .nil))) (fun _ h => h)
          by_cases e : j = i
          · subst e
            rw [List.getElem?_eq_getElem hlt, List.getElem?_eq_getElem (by omega), hc']
          · exact he j (by omega)
      · (refine hc_seq ?_; refine Zw rfl rfl rfl rfl rfl ?_; refine Zm rfl rfl rfl rfl rfl ?_; refine hx_plain rfl ?_; refine h_len_slice rfl rfl rfl UC.out rfl rfl rfl ?_; refine Zc rfl rfl rfl rfl rfl rfl rfl ?_; refine Zt ?_; refine hc_condDF rfl (by omega) ?_; refine hc_exit ?_; (iterate 2 (refine hq_exit_then ?_)); refine hq_exit_block ?_; refine hq_then ?_; refine Zx rfl rfl rfl rfl rfl ?_; refine hc_ret ?_)
        refine hq_ret1 (.inr rfl) rfl rfl ⟨?_, rfl⟩ (fun _ h => h.emp)
        have : xs = ys := List.ext_getElem? (fun j => by
          rcases Nat.lt_or_ge j i with hj | hj
          · exact he j hj
          · rw [List.getElem?_eq_none (by omega), List.getElem?_eq_none (by omega)])
        rw [decide_eq_true this]
  · (refine Zx rfl rfl rfl rfl rfl ?_; refine hc_seq ?_; refine Zw rfl rfl rfl rfl rfl ?_; refine hx_plain rfl ?_; refine h_len_slice rfl rfl rfl UC.out rfl rfl rfl ?_; refine Zm rfl rfl rfl rfl rfl ?_; refine hx_plain rfl ?_; refine h_len_slice rfl rfl rfl UC.out rfl rfl rfl ?_; refine Zc rfl rfl rfl rfl rfl rfl rfl ?_; refine Zt ?_; refine hc_condDT rfl (by omega) ?_; refine Zx rfl rfl rfl rfl rfl ?_; refine hc_ret ?_; refine hq_ret_then ?_)
    refine hq_ret1 (.inr rfl) rfl rfl ⟨?_, rfl⟩ (fun _ h => h.emp)
    rw [decide_eq_false (fun e => hlen (by rw [e]))]
end Go.Proofs.YtfolhmlldoepfaaGreatDoor
namespace Go.Proofs.YtfolhmlldoepfaaGreatDoor
open Go Go.Proofs
set_option maxRecDepth 4000
set_option maxHeartbeats 1000000 in
theorem lay_row (g cap : Nat) (bs : List Int) (x : Int) (m : Nat) (hl : bs.length + m ≤ cap) (hm : m ≤ 8) :
    Spec Tryz.prog 99 [.slice (some ⟨g, 0, none⟩) bs.length cap, .int .u64 x, .int .i64 (m : Int)] [Row byteE 5 g cap bs] (fun u M => u = .slice (some ⟨g, 0, none⟩) (bs.length + m) cap ∧ M = [Row byteE 5 g cap (bs ++ dg x m)]) := by
  refine spec_of Tryz.func99 rfl rfl (Nat.le_of_ble_eq_true rfl) (fun w F => ?_)
  (refine Zx rfl rfl rfl rfl rfl ?_; refine hc_seq ?_; refine Zw rfl rfl rfl rfl rfl ?_; refine hx_plain rfl ?_; refine h_arithI rfl rfl rfl rfl (by omega) rfl rfl ?_; refine Zn rfl rfl rfl rfl rfl ?_; refine hc_block ?_)
  refine hc_cut (id := 0) (Y := Unit) (fun _ => [(0, .slice (some ⟨g, 0, none⟩) (bs.length + m) cap)]) (fun v => [Row byteE 5 g cap (bs ++ dg x m)]) (fun _ => True) ?_ ?_
  · refine hc_loop (X := Nat × List Int) (fun y => [(0, .slice (some ⟨g, 0, none⟩) y.2.length cap), (1, .int .u64 x), (2, .int .i64 ((y.1 : Int) - 1))]) (fun y => [Row byteE 5 g cap y.2]) (fun y => y.1 ≤ 8 ∧ y.2 ++ dg x y.1 = bs ++ dg x m) (fun y => y.1) (m, bs) (.cons rfl (.cons rfl (.cons rfl .nil))) ⟨hm, rfl⟩ (fun _ h => h) ?_
    rintro ⟨j, cs⟩ ⟨hj, he⟩
    dsimp only at hj he ⊢
    have hlen := congrArg List.length he
    simp only [List.length_append, dg_len] at hlen
    cases j with
    | zero =>
      rw [show cs.length = bs.length + m by omega]
      (refine hc_seq ?_; refine Zw rfl rfl rfl rfl rfl ?_; refine Zc rfl rfl rfl rfl rfl rfl rfl ?_; refine Zt ?_; refine hc_condF rfl ?_; refine hc_exit ?_; (iterate 2 (refine hq_exit_then ?_)))
      refine hq_cut () trivial (.cons rfl .nil) (fun _ h => ?_)
      rw [dg, List.append_nil] at he
      rw [← he]
      exact h
    | succ j =>
      have e1 : (((j + 1 : Nat) : Int) - 1) = (j : Int) := by omega
      rw [e1]
      (refine hc_seq ?_; refine Zw rfl rfl rfl rfl rfl ?_; refine Zc rfl rfl rfl rfl rfl rfl rfl ?_; refine Zt ?_; refine hc_condT rfl ?_; refine hc_skip ?_; refine hq_then ?_; refine hc_seq ?_; refine hc_block ?_; refine hc_lex ?_; (iterate 3 (refine Zm rfl rfl rfl rfl rfl ?_)); refine hx_plain rfl ?_; refine h_arithI rfl rfl rfl rfl (by omega) rfl rfl ?_; refine hx_plain rfl ?_; refine h_shrU rfl rfl rfl (by omega) rfl rfl ?_; refine hx_plain rfl ?_; refine h_convInt rfl rfl UC.out UC.out rfl rfl ?_; refine hx_plain rfl ?_; (refine h_buildSlice rfl rfl rfl UC.out IC.size IC.zero rfl rfl (by intro v hv; simp at hv; first | (subst hv; rfl) | (rcases hv with rfl | rfl <;> rfl) | (rcases hv with rfl | rfl | rfl <;> rfl)) (by omega) rfl rfl (fun _ => ?_)); refine hx_plain rfl ?_)
      refine h_appendFit (E := byteE) (T := 5) (xs := cs) [IntKind.u8.wrap (x / 2 ^ (8 * (j : Int)).toNat)] rfl rfl rfl rfl rfl rfl UC.out IC.size (.tail .head) (fun w' h => h.rdBlk [IntKind.u8.wrap (x / 2 ^ (8 * (j : Int)).toNat)] .head rfl (by unfold maxLen; omega) (one_row byteE _)) (by show cs.length + 1 ≤ cap; omega) rfl rfl ?_
      (refine Za rfl rfl rfl rfl rfl ?_; refine hx_nil ?_; refine hq_norm_block ?_; refine hq_then ?_; refine hc_lex ?_; refine Zm rfl rfl rfl rfl rfl ?_; refine hx_plain rfl ?_; refine h_arithI rfl rfl rfl rfl (by omega) rfl rfl ?_; refine Za rfl rfl rfl rfl rfl ?_; refine hx_nil ?_)
      have e2 : (8 * (j : Int)).toNat = 8 * j := by omega
      refine hq_round (j, cs ++ [IntKind.u8.wrap (x / 2 ^ (8 * j))]) (by show j < j + 1; omega) ⟨by show j ≤ 8; omega, by show (cs ++ [_]) ++ dg x j = _; rw [← he, dg, List.append_assoc]; rfl⟩ (.cons (by rw [List.length_append]; rfl) (.cons rfl (.cons rfl .nil))) (fun _ h => ?_)
      show St w F [Row byteE 5 g cap (cs ++ [IntKind.u8.wrap (x / 2 ^ (8 * j))])] _
      rw [← e2]
      exact h.sub (.cons .head .nil)
  · rintro ⟨⟩ _
    (refine hq_exit_block ?_; refine hq_then ?_; refine Zw rfl rfl rfl rfl rfl ?_; refine Zn rfl rfl rfl rfl rfl ?_; refine hc_ret ?_)
    exact hq_ret1 (.inr rfl) rfl rfl ⟨rfl, rfl⟩ (fun _ h => h)
set_option maxHeartbeats 1000000 in
theorem put64_makes {bs : List Int} {w : World} {v : Value} (x : Int) (h1 : Rd byteE w v bs) (hl : bs.length ≤ 140737488355200) :
    Makes Tryz.prog 57 [v, .int .i64 x] w (fun u M => M = [RowV byteE 5 u (bs ++ dg (IntKind.u64.wrap x) 8)]) := by
  refine makes_of Tryz.func57 rfl rfl (Nat.le_of_ble_eq_true rfl) ?_
  (refine Zx rfl rfl rfl rfl rfl ?_; refine Zw rfl rfl rfl rfl rfl ?_; refine Zm rfl rfl rfl rfl rfl ?_; refine hx_plain rfl ?_; refine h_convInt rfl rfl UC.out UC.out rfl rfl ?_; refine hx_plain rfl ?_)
  refine h_callW (post := fun u M => M = [RowV byteE 5 u (bs ++ dg (IntKind.u64.wrap x) 8)]) rfl rfl rfl rfl rfl rfl rfl rfl EC.out (fun w' h => putSum_makes (IntKind.u64.wrap x) (h.rd h1) hl) ?_
  rintro u M rfl
  (refine Zn rfl rfl rfl rfl rfl ?_; refine hc_ret ?_)
  exact hq_ret1 (.inr rfl) rfl rfl rfl (fun _ h => h)
/-- The field of these bytes. -/
def fieldB (ds : List Int) : List Int := dg (IntKind.u64.wrap (ds.length : Int)) 4 ++ ds ++ List.replicate (padN ds.length) 0
set_option maxHeartbeats 1000000 in
theorem putBytes_makes {bs ds : List Int} {w : World} {v vd : Value} (h1 : Rd byteE w v bs) (h2 : Rd byteE w vd ds) (hl : bs.length + ds.length ≤ 140737488355300) (hd : ds.length ≤ 140737488355200) :
    Makes Tryz.prog 180 [v, vd] w (fun u M => M = [RowV byteE 5 u (bs ++ fieldB ds)]) := by
  obtain ⟨a2, c2, e2, l2, m2, k2⟩ := id h2
  subst e2
  have hpad := padN_lt ds.length
  refine makes_of Tryz.func180 rfl rfl (Nat.le_of_ble_eq_true rfl) ?_
  (refine Zx rfl rfl rfl rfl rfl ?_; refine Zw rfl rfl rfl rfl rfl ?_; refine Zm rfl rfl rfl rfl rfl ?_; refine hx_plain rfl ?_; refine h_len_slice rfl rfl rfl UC.out rfl rfl rfl ?_; refine hx_plain rfl ?_; refine h_arithI rfl rfl rfl rfl (by omega) rfl rfl ?_; refine hx_plain rfl ?_)
  rw [show (8 : Int) + (ds.length : Int) = ((8 + ds.length : Nat) : Int) by omega]
  refine h_callW (post := fun u M => ∃ g, u = .slice (some ⟨g, 0, none⟩) bs.length (bs.length + (8 + ds.length)) ∧ M = [Row byteE 5 g (bs.length + (8 + ds.length)) bs]) rfl rfl rfl rfl rfl rfl rfl rfl EC.out (fun w' h => fresh_makes (8 + ds.length) (h.rd h1) (by omega)) ?_
  rintro u M ⟨g, rfl, rfl⟩
  (refine Zm rfl rfl rfl rfl rfl ?_; refine hx_plain rfl ?_; refine h_len_slice rfl rfl rfl UC.out rfl rfl rfl ?_; refine hx_plain rfl ?_; refine h_convInt rfl rfl UC.out UC.out rfl rfl ?_; refine hx_plain rfl ?_)
  refine h_call rfl rfl rfl rfl rfl rfl rfl rfl EC.out (.cons .head .nil) (lay_row g _ bs (IntKind.u64.wrap (ds.length : Int)) 4 (by omega) (by omega)) ?_
  rintro u M ⟨rfl, rfl⟩
  (refine Zn rfl rfl rfl rfl rfl ?_; refine Zw rfl rfl rfl rfl rfl ?_; refine Zm rfl rfl rfl rfl rfl ?_; refine hx_plain rfl ?_)
  refine h_appendFit (E := byteE) (T := 5) (xs := bs ++ dg (IntKind.u64.wrap (ds.length : Int)) 4) ds rfl rfl rfl rfl (by rw [List.length_append, dg_len]) rfl UC.out IC.size .head (fun w' h => h.rd h2) (by rw [List.length_append, dg_len]; omega) rfl rfl ?_
  (refine Zn rfl rfl rfl rfl rfl ?_; refine Zw rfl rfl rfl rfl rfl ?_; refine Zm rfl rfl rfl rfl rfl ?_; refine hx_plain rfl ?_; refine h_len_slice rfl rfl rfl UC.out rfl rfl rfl ?_; refine hx_plain rfl ?_)
  refine h_callR rfl rfl rfl rfl rfl rfl EC.out ((padding_spec ds.length (by omega)).reads _) ?_
  (refine hx_plain rfl ?_)
  refine h_appendZ (xs := bs ++ dg (IntKind.u64.wrap (ds.length : Int)) 4 ++ ds) (padN ds.length) rfl rfl rfl rfl (by simp only [List.length_append, dg_len]) rfl UC.out UC.out IC.out .head (by omega) (by omega) (by simp only [List.length_append, dg_len]; omega) rfl rfl ?_
  (refine Zn rfl rfl rfl rfl rfl ?_; refine hc_ret ?_)
  refine hq_ret1 (.inr rfl) rfl rfl rfl (fun _ h => ?_)
  have h' := h.rowV_mk
  have e5 : bs ++ dg (IntKind.u64.wrap (ds.length : Int)) 4 ++ ds ++ List.replicate (padN ds.length) 0 = bs ++ fieldB ds := by unfold fieldB; simp only [List.append_assoc]
  have e6 : (bs ++ dg (IntKind.u64.wrap (ds.length : Int)) 4 ++ ds).length + padN ds.length = (bs ++ fieldB ds).length := by rw [← e5, List.length_append (bs := List.replicate _ _), List.length_replicate]
  rw [e5] at h'
  rw [e6]
  exact h'
end Go.Proofs.YtfolhmlldoepfaaGreatDoor
namespace Go.Proofs.YtfolhmlldoepfaaGreatDoor
open Go Go.Proofs
set_option maxRecDepth 4000
set_option maxHeartbeats 1000000 in
theorem putText_makes {bs : List Int} {s : ByteArray} {w : World} {v : Value} (h1 : Rd byteE w v bs) (hl : bs.length + s.size ≤ 140737488355300) (hs : s.size ≤ 140737488355200) :
    Makes Tryz.prog 178 [v, .string s] w (fun u M => M = [RowV byteE 5 u (bs ++ fieldB (strBytes s))]) := by
  have hsl := strBytes_len s
  refine makes_of Tryz.func178 rfl rfl (Nat.le_of_ble_eq_true rfl) ?_
  (refine Zx rfl rfl rfl rfl rfl ?_; refine Zw rfl rfl rfl rfl rfl ?_; refine Zm rfl rfl rfl rfl rfl ?_; refine hx_plain rfl ?_)
  refine h_ofString rfl rfl rfl UC.out UC.out UC.out (by unfold maxLen; omega) rfl rfl (fun b cap => ?_)
  (refine hx_plain rfl ?_)
  refine h_callW (post := fun u M => M = [RowV byteE 5 u (bs ++ fieldB (strBytes s))]) rfl rfl rfl rfl rfl rfl rfl rfl EC.out (fun w' h => putBytes_makes (h.rd h1) (h.rdBytB .head) (by omega) (by omega)) ?_
  rintro u M rfl
  (refine Zn rfl rfl rfl rfl rfl ?_; refine hc_ret ?_)
  exact hq_ret1 (.inr rfl) rfl rfl rfl (fun _ h => h.sub (.cons .head .nil))
theorem pow8 (m : Nat) : (2 : Int) ^ (8 * (m + 1)) = 2 ^ (8 * m) * 256 := by
  rw [Nat.mul_add, Int.pow_add]
  rfl
theorem set_mid {α : Type} (l1 l2 : List α) (a b : α) : (l1 ++ a :: l2).set l1.length b = l1 ++ b :: l2 := by
  rw [List.set_append_right _ _ (Nat.le_refl _), Nat.sub_self]
  rfl
set_option maxHeartbeats 1000000 in
theorem digits_makes {w : World} (x : Int) (m : Nat) (hm : 1 ≤ m ∧ m ≤ 8) (hx : 0 ≤ x ∧ x ≤ 18446744073709551615) :
    Makes Tryz.prog 131 [.int .u64 x, .int .i64 (m : Int)] w (fun u M => M = [RowV byteE 5 u (dg x m)]) := by
  refine makes_of Tryz.func131 rfl rfl (Nat.le_of_ble_eq_true rfl) ?_
  (refine Zx rfl rfl rfl rfl rfl ?_; refine Zw rfl rfl rfl rfl rfl ?_; refine hx_plain rfl ?_)
  refine h_callW (post := fun u M => M = [RowV byteE 5 u (List.replicate m 0)]) rfl rfl rfl rfl rfl rfl rfl rfl EC.out (fun w' h => zeros_makes m (by omega)) ?_
  rintro u M rfl
  (refine Zn rfl rfl rfl rfl rfl ?_; refine hc_seq ?_; refine Zw rfl rfl rfl rfl rfl ?_; refine hx_plain rfl ?_; refine h_arithI rfl rfl rfl rfl (by omega) rfl rfl ?_; refine Zn rfl rfl rfl rfl rfl ?_; refine hc_block ?_)
  refine hc_rowV .head (fun _ h => ?_) (fun g cap h => ?_)
  · exfalso
    have := congrArg List.length h
    rw [List.length_replicate] at this
    simp at this
    omega
  subst h
  rw [List.length_replicate]
  refine hc_cut (id := 0) (Y := Unit) (fun _ => [(5, .slice (some ⟨g, 0, none⟩) m cap)]) (fun _ => [Row byteE 5 g cap (dg x m)]) (fun _ => True) ?_ ?_
  · refine hc_loop (X := Nat) (fun j => [(0, .int .u64 (x / 2 ^ (8 * (m - j)))), (5, .slice (some ⟨g, 0, none⟩) m cap), (6, .int .i64 ((j : Int) - 1))]) (fun j => [Row byteE 5 g cap (List.replicate j 0 ++ dg x (m - j))]) (fun j => j ≤ m) (fun j => j) m (.cons (by rw [Nat.sub_self]; simp; rfl) (.cons rfl (.cons rfl .nil))) (Nat.le_refl _) (fun _ h => by rw [Nat.sub_self, dg, List.append_nil]; exact h) ?_
    intro j hj
    cases j with
    | zero =>
      (refine hc_seq ?_; refine Zw rfl rfl rfl rfl rfl ?_; refine Zc rfl rfl rfl rfl rfl rfl rfl ?_; refine Zt ?_; refine hc_condF rfl ?_; refine hc_exit ?_; (iterate 2 (refine hq_exit_then ?_)))
      exact hq_cut () trivial (.cons rfl .nil) (fun _ h => h)
    | succ j =>
      have e1 : (((j + 1 : Nat) : Int) - 1) = (j : Int) := by omega
      rw [e1]
      have hp : (0 : Int) < 2 ^ (8 * (m - (j + 1))) := Int.pow_pos (by decide)
      have hq0 : 0 ≤ x / 2 ^ (8 * (m - (j + 1))) := Int.ediv_nonneg hx.1 (by omega)
      have hq1 : x / 2 ^ (8 * (m - (j + 1))) ≤ x := Int.ediv_le_self _ hx.1
      have hmj : m - j = m - (j + 1) + 1 := by omega
      have hg : (List.replicate (j + 1) (0 : Int) ++ dg x (m - (j + 1)))[j]? = some 0 := by
        rw [List.getElem?_append_left (by rw [List.length_replicate]; omega), List.getElem?_replicate, if_pos (by omega)]
      (refine hc_seq ?_; refine Zw rfl rfl rfl rfl rfl ?_; refine Zc rfl rfl rfl rfl rfl rfl rfl ?_; refine Zt ?_; refine hc_condT rfl ?_; refine hc_skip ?_; refine hq_then ?_; refine hc_seq ?_; refine hc_block ?_; refine Zw rfl rfl rfl rfl rfl ?_; (iterate 2 (refine Zm rfl rfl rfl rfl rfl ?_)); refine hx_plain rfl ?_)
      refine h_remU rfl rfl rfl ⟨hq0, by decide⟩ rfl rfl ?_
      (refine hx_plain rfl ?_; refine h_convInt rfl rfl UC.out UC.out rfl rfl ?_; refine hx_plain rfl ?_; refine h_rowAddr rfl rfl rfl UC.out IC.size (by omega) (by omega) rfl rfl ?_; refine hx_plain rfl ?_)
      refine h_rowStoreN (i := j) (q := (0 : Int)) (IntKind.u8.wrap (x / 2 ^ (8 * (m - (j + 1))) % 256)) rfl rfl rfl .head rfl rfl rfl IC.size hg rfl rfl ?_
      (refine Zt ?_; refine hc_lex ?_; refine Zm rfl rfl rfl rfl rfl ?_; refine hx_plain rfl ?_)
      refine h_quoU rfl rfl rfl ⟨hq0, by omega, by decide⟩ rfl rfl ?_
      (refine Za rfl rfl rfl rfl rfl ?_; refine hx_nil ?_; refine hq_norm_block ?_; refine hq_then ?_; refine hc_lex ?_; refine Zm rfl rfl rfl rfl rfl ?_; refine hx_plain rfl ?_; refine h_arithI rfl rfl rfl rfl (by omega) rfl rfl ?_; refine Za rfl rfl rfl rfl rfl ?_; refine hx_nil ?_)
      refine hq_round j (by omega) (by omega) (.cons ?_ (.cons rfl (.cons rfl .nil))) (fun _ h => ?_)
      · show some (Value.int .u64 (x / 2 ^ (8 * (m - (j + 1))) / 256)) = some (Value.int .u64 (x / 2 ^ (8 * (m - j))))
        rw [hmj, pow8, Int.ediv_ediv_of_nonneg (by omega)]
      · have e3 : (List.replicate (j + 1) (0 : Int) ++ dg x (m - (j + 1))).set j (IntKind.u8.wrap (x / 2 ^ (8 * (m - (j + 1))) % 256)) = List.replicate j 0 ++ dg x (m - j) := by
          rw [List.replicate_succ', List.append_assoc, List.singleton_append]
          have := set_mid (List.replicate j (0 : Int)) (dg x (m - (j + 1))) 0 (IntKind.u8.wrap (x / 2 ^ (8 * (m - (j + 1))) % 256))
          rw [List.length_replicate] at this
          rw [this, hmj, dg, wrap8_eq, wrap8_eq, Int.emod_emod]
        rw [e3] at h
        exact h
  · rintro ⟨⟩ _
    (refine hq_exit_block ?_; refine hq_then ?_; refine Zw rfl rfl rfl rfl rfl ?_; refine Zn rfl rfl rfl rfl rfl ?_; refine hc_ret ?_)
    refine hq_ret1 (.inr rfl) rfl rfl rfl (fun _ h => ?_)
    have h' := h.rowV_mk
    rw [dg_len] at h'
    exact h'
theorem wrapU_range (x : Int) : 0 ≤ IntKind.u64.wrap x ∧ IntKind.u64.wrap x ≤ 18446744073709551615 := by
  rw [wrapU_eq]
  omega
set_option maxHeartbeats 1000000 in
theorem rput32_makes {bs : List Int} {w : World} {v : Value} (x : Int) (h1 : Rd byteE w v bs) (hl : bs.length ≤ 140737488355100) :
    Makes Tryz.prog 104 [v, .int .i64 x] w (fun u M => M = [RowV byteE 5 u (bs ++ dg (IntKind.u64.wrap x) 4)]) := by
  refine makes_of Tryz.func104 rfl rfl (Nat.le_of_ble_eq_true rfl) ?_
  (refine Zx rfl rfl rfl rfl rfl ?_; refine Zw rfl rfl rfl rfl rfl ?_; refine Zm rfl rfl rfl rfl rfl ?_; refine hx_plain rfl ?_; refine h_convInt rfl rfl UC.out UC.out rfl rfl ?_; refine hx_plain rfl ?_)
  refine h_callW (post := fun u M => M = [RowV byteE 5 u (dg (IntKind.u64.wrap x) 4)]) rfl rfl rfl rfl rfl rfl rfl rfl EC.out (fun w' h => digits_makes (IntKind.u64.wrap x) 4 (by omega) (wrapU_range x)) ?_
  rintro u M rfl
  (refine hx_plain rfl ?_)
  refine h_callW (post := fun u M => M = [RowV byteE 5 u (bs ++ dg (IntKind.u64.wrap x) 4)]) rfl rfl rfl rfl rfl rfl rfl rfl EC.out (fun w' h => join_makes (h.rd h1) (h.rdRowV .head) (by rw [dg_len]; omega)) ?_
  rintro u M rfl
  (refine Zn rfl rfl rfl rfl rfl ?_; refine hc_ret ?_)
  exact hq_ret1 (.inr rfl) rfl rfl rfl (fun _ h => h.sub (.cons .head .nil))
set_option maxHeartbeats 1000000 in
theorem rput64_makes {bs : List Int} {w : World} {v : Value} (x : Int) (h1 : Rd byteE w v bs) (hl : bs.length ≤ 140737488355100) :
    Makes Tryz.prog 105 [v, .int .i64 x] w (fun u M => M = [RowV byteE 5 u (bs ++ dg (IntKind.u64.wrap x) 8)]) := by
  refine makes_of Tryz.func105 rfl rfl (Nat.le_of_ble_eq_true rfl) ?_
  (refine Zx rfl rfl rfl rfl rfl ?_; refine Zw rfl rfl rfl rfl rfl ?_; refine Zm rfl rfl rfl rfl rfl ?_; refine hx_plain rfl ?_; refine h_convInt rfl rfl UC.out UC.out rfl rfl ?_; refine hx_plain rfl ?_)
  refine h_callW (post := fun u M => M = [RowV byteE 5 u (dg (IntKind.u64.wrap x) 8)]) rfl rfl rfl rfl rfl rfl rfl rfl EC.out (fun w' h => digits_makes (IntKind.u64.wrap x) 8 (by omega) (wrapU_range x)) ?_
  rintro u M rfl
  (refine hx_plain rfl ?_)
  refine h_callW (post := fun u M => M = [RowV byteE 5 u (bs ++ dg (IntKind.u64.wrap x) 8)]) rfl rfl rfl rfl rfl rfl rfl rfl EC.out (fun w' h => join_makes (h.rd h1) (h.rdRowV .head) (by rw [dg_len]; omega)) ?_
  rintro u M rfl
  (refine Zn rfl rfl rfl rfl rfl ?_; refine hc_ret ?_)
  exact hq_ret1 (.inr rfl) rfl rfl rfl (fun _ h => h.sub (.cons .head .nil))
set_option maxHeartbeats 1000000 in
theorem rputSum_makes {bs : List Int} {w : World} {v : Value} (x : Int) (hx : 0 ≤ x ∧ x ≤ 18446744073709551615) (h1 : Rd byteE w v bs) (hl : bs.length ≤ 140737488355100) :
    Makes Tryz.prog 102 [v, .int .u64 x] w (fun u M => M = [RowV byteE 5 u (bs ++ dg x 8)]) := by
  refine makes_of Tryz.func102 rfl rfl (Nat.le_of_ble_eq_true rfl) ?_
  (refine Zx rfl rfl rfl rfl rfl ?_; refine Zw rfl rfl rfl rfl rfl ?_; refine Zm rfl rfl rfl rfl rfl ?_; refine hx_plain rfl ?_)
  refine h_callW (post := fun u M => M = [RowV byteE 5 u (dg x 8)]) rfl rfl rfl rfl rfl rfl rfl rfl EC.out (fun w' h => digits_makes x 8 (by omega) hx) ?_
  rintro u M rfl
  (refine hx_plain rfl ?_)
  refine h_callW (post := fun u M => M = [RowV byteE 5 u (bs ++ dg x 8)]) rfl rfl rfl rfl rfl rfl rfl rfl EC.out (fun w' h => join_makes (h.rd h1) (h.rdRowV .head) (by rw [dg_len]; omega)) ?_
  rintro u M rfl
  (refine Zn rfl rfl rfl rfl rfl ?_; refine hc_ret ?_)
  exact hq_ret1 (.inr rfl) rfl rfl rfl (fun _ h => h.sub (.cons .head .nil))
set_option maxHeartbeats 1000000 in
theorem rputBytes_makes {bs ds : List Int} {w : World} {v vd : Value} (h1 : Rd byteE w v bs) (h2 : Rd byteE w vd ds) (hl : bs.length + ds.length ≤ 140737488355000) :
    Makes Tryz.prog 107 [v, vd] w (fun u M => M = [RowV byteE 5 u (bs ++ fieldB ds)]) := by
  obtain ⟨a2, c2, e2, l2, m2, k2⟩ := id h2
  subst e2
  refine makes_of Tryz.func107 rfl rfl (Nat.le_of_ble_eq_true rfl) ?_
  (refine Zx rfl rfl rfl rfl rfl ?_; refine Zw rfl rfl rfl rfl rfl ?_; refine Zm rfl rfl rfl rfl rfl ?_; refine hx_plain rfl ?_; refine h_len_slice rfl rfl rfl UC.out rfl rfl rfl ?_; refine hx_plain rfl ?_)
  refine h_callW (post := fun u M => M = [RowV byteE 5 u (bs ++ dg (IntKind.u64.wrap (ds.length : Int)) 4)]) rfl rfl rfl rfl rfl rfl rfl rfl EC.out (fun w' h => rput32_makes (ds.length : Int) (h.rd h1) (by omega)) ?_
  rintro u M rfl
  (refine Zn rfl rfl rfl rfl rfl ?_; refine Zw rfl rfl rfl rfl rfl ?_; refine Zm rfl rfl rfl rfl rfl ?_; refine hx_plain rfl ?_)
  refine h_callW (post := fun u M => M = [RowV byteE 5 u (bs ++ dg (IntKind.u64.wrap (ds.length : Int)) 4 ++ ds)]) rfl rfl rfl rfl rfl rfl rfl rfl EC.out (fun w' h => join_makes (h.rdRowV .head) (h.rd h2) (by rw [List.length_append, dg_len]; omega)) ?_
  rintro v0 M rfl
  (refine Zn rfl rfl rfl rfl rfl ?_; refine hc_seq ?_; refine Zw rfl rfl rfl rfl rfl ?_; refine hx_plain rfl ?_; refine h_len_slice rfl rfl rfl UC.out rfl rfl rfl ?_; refine Zn rfl rfl rfl rfl rfl ?_; refine hc_block ?_)
  obtain ⟨xs, hxs⟩ : ∃ xs, bs ++ dg (IntKind.u64.wrap (ds.length : Int)) 4 ++ ds = xs := ⟨_, rfl⟩
  have hxl : xs.length = bs.length + 4 + ds.length := by rw [← hxs]; simp only [List.length_append, dg_len]
  have e5 : bs ++ fieldB ds = xs ++ List.replicate (padN ds.length) 0 := by rw [← hxs]; unfold fieldB; simp only [List.append_assoc]
  rw [hxs, e5]
  clear hxs
  have hpad := padN_lt ds.length
  have hmod : ∀ j, j ≤ padN ds.length → ((ds.length + j) % 4 = 0 ↔ j = padN ds.length) := by
    intro j hj
    unfold padN at *
    omega
  refine hc_cut (id := 0) (Y := Value) (fun v => [(5, v)]) (fun v => [RowV byteE 5 v (xs ++ List.replicate (padN ds.length) 0)]) (fun _ => True) ?_ ?_
  · refine hc_loop (X := Nat × Value) (fun x => [(5, x.2), (6, .int .i64 ((ds.length + x.1 : Nat) : Int))]) (fun x => [RowV byteE 5 x.2 (xs ++ List.replicate x.1 0)]) (fun x => x.1 ≤ padN ds.length) (fun x => padN ds.length - x.1) (0, v0) (.cons rfl (.cons rfl .nil)) (Nat.zero_le _) (fun _ h => by rw [List.replicate_zero, List.append_nil]; exact h.sub (.cons .head .nil)) ?_
    rintro ⟨j, v⟩ hj
    dsimp only at hj ⊢
    have hm := hmod j hj
    have hcast : ((ds.length + j : Nat) : Int) % 4 = (((ds.length + j) % 4 : Nat) : Int) := by omega
    by_cases hlt : j < padN ds.length
    · have hne : ¬ ((ds.length + j : Nat) : Int) % 4 = 0 := by rw [hcast]; omega
      have hlen : (xs ++ List.replicate j (0 : Int)).length = xs.length + j := by rw [List.length_append, List.length_replicate]
      (refine hc_seq ?_; refine Zw rfl rfl rfl rfl rfl ?_; refine hx_plain rfl ?_; refine h_remI rfl rfl rfl (by omega) rfl rfl ?_; refine Zc rfl rfl rfl rfl rfl rfl rfl ?_; refine Zt ?_; refine hc_condDT rfl (by omega) ?_; refine hc_skip ?_; refine hq_then ?_; refine hc_seq ?_; refine hc_block ?_; refine hc_lex ?_; refine Zm rfl rfl rfl rfl rfl ?_; refine hx_plain rfl ?_; (refine h_buildSlice rfl rfl rfl UC.out IC.size IC.zero rfl rfl (by intro v hv; simp at hv; first | (subst hv; rfl) | (rcases hv with rfl | rfl <;> rfl) | (rcases hv with rfl | rfl | rfl <;> rfl)) (by omega) rfl rfl (fun _ => ?_)); refine hx_plain rfl ?_)
      refine h_append (m := 1) (E := byteE) (T := 5) (xs := xs ++ List.replicate j 0) (ys := [0]) rfl rfl rfl rfl rfl UC.out IC.out rfl (.cons (.tail .head) (.cons .head .nil)) rfl (one_row byteE _) (by unfold maxLen; omega) (by omega) rfl rfl (fun v' _ => ?_)
      (refine Za rfl rfl rfl rfl rfl ?_; refine hx_nil ?_; refine hq_norm_block ?_; refine hq_then ?_; refine hc_lex ?_; refine Zm rfl rfl rfl rfl rfl ?_; refine hx_plain rfl ?_; refine h_arithI rfl rfl rfl rfl (by omega) rfl rfl ?_; refine Za rfl rfl rfl rfl rfl ?_; refine hx_nil ?_)
      refine hq_round (j + 1, v') (by show padN ds.length - (j + 1) < padN ds.length - j; omega) (by show j + 1 ≤ _; omega) (.cons rfl (.cons (by show some (Value.int .i64 _) = some (Value.int .i64 _); congr 2) .nil)) (fun _ h => ?_)
      show St w nowhere [RowV byteE 5 v' (xs ++ List.replicate (j + 1) 0)] _
      rw [List.replicate_succ', ← List.append_assoc]
      exact h.sub (.cons .head .nil)
    · obtain rfl : j = padN ds.length := by omega
      have he : ((ds.length + padN ds.length : Nat) : Int) % 4 = 0 := by rw [hcast]; omega
      (refine hc_seq ?_; refine Zw rfl rfl rfl rfl rfl ?_; refine hx_plain rfl ?_; refine h_remI rfl rfl rfl (by omega) rfl rfl ?_; refine Zc rfl rfl rfl rfl rfl rfl rfl ?_; refine Zt ?_; refine hc_condDF rfl (by omega) ?_; refine hc_exit ?_; (iterate 2 (refine hq_exit_then ?_)))
      exact hq_cut v trivial (.cons rfl .nil) (fun _ h => h)
  · rintro v _
    (refine hq_exit_block ?_; refine hq_then ?_; refine Zw rfl rfl rfl rfl rfl ?_; refine Zn rfl rfl rfl rfl rfl ?_; refine hc_ret ?_)
    exact hq_ret1 (.inr rfl) rfl rfl rfl (fun _ h => h)
set_option maxHeartbeats 1000000 in
theorem rputText_makes {bs : List Int} {s : ByteArray} {w : World} {v : Value} (h1 : Rd byteE w v bs) (hl : bs.length + s.size ≤ 140737488355000) :
    Makes Tryz.prog 106 [v, .string s] w (fun u M => M = [RowV byteE 5 u (bs ++ fieldB (strBytes s))]) := by
  have hsl := strBytes_len s
  refine makes_of Tryz.func106 rfl rfl (Nat.le_of_ble_eq_true rfl) ?_
  (refine Zx rfl rfl rfl rfl rfl ?_; refine Zw rfl rfl rfl rfl rfl ?_; refine Zm rfl rfl rfl rfl rfl ?_; refine hx_plain rfl ?_)
  refine h_ofString rfl rfl rfl UC.out UC.out UC.out (by unfold maxLen; omega) rfl rfl (fun b cap => ?_)
  (refine hx_plain rfl ?_)
  refine h_callW (post := fun u M => M = [RowV byteE 5 u (bs ++ fieldB (strBytes s))]) rfl rfl rfl rfl rfl rfl rfl rfl EC.out (fun w' h => rputBytes_makes (h.rd h1) (h.rdBytB .head) (by omega)) ?_
  rintro u M rfl
  (refine Zn rfl rfl rfl rfl rfl ?_; refine hc_ret ?_)
  exact hq_ret1 (.inr rfl) rfl rfl rfl (fun _ h => h.sub (.cons .head .nil))
end Go.Proofs.YtfolhmlldoepfaaGreatDoor
