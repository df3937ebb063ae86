import Derived.Test.YtmdkboojafbpcaaDoorRp2
import Derived.Test.YtmdkboojafbpcaaDoorRf1
import Derived.Test.YtmdkboojafbpcaaDoorQ8
namespace Go.Proofs.YtmdkboojafbpcaaDoor
open Go Go.Proofs
set_option maxRecDepth 4000

theorem get_step {x c : Int} (hx : 0 ≤ x ∧ x < 72057594037927936) (hc : 0 ≤ c ∧ c ≤ 255) : IntKind.u64.wrap (IntKind.u64.wrap (256 * x) + IntKind.u64.wrap c) = numS x c := by
  rw [numS_eq hx hc, wrapU_eq, wrapU_eq, wrapU_eq]
  omega
set_option maxHeartbeats 1000000 in
theorem rget_reads {bs : List Int} {w : World} {v : Value} (h1 : Rd byteE w v bs) (hb : Byts bs) (a m : Nat) (hm : m ≤ 8) (ha : a + m ≤ bs.length) (ha2 : a ≤ 100000) :
    Calls Tryd.prog 46 [v, .int .i64 (a : Int), .int .i64 (m : Int)].toArray w (fun en w' => en = .returned (.int .u64 (numR ((bs.drop a).take m))) ∧ But w w' nowhere) := by
  obtain ⟨a1, c1, rfl, l1, m1, k1⟩ := h1
  unfold maxLen at m1
  refine reads_of Tryd.func46 rfl rfl (Nat.le_of_ble_eq_true rfl) ?_
  (refine hc_seq ?_; refine hc_lex ?_; refine hx_plain rfl ?_; refine h_assign rfl rfl rfl rfl ?_; refine hx_nil ?_; refine hq_then ?_; refine hc_seq ?_; refine hc_lex ?_; refine hx_plain rfl ?_; refine h_assign rfl rfl rfl rfl ?_; refine hx_nil ?_; refine hq_then ?_; refine hc_seq ?_; refine hc_seq ?_; refine hc_lex ?_; refine hx_plain rfl ?_; refine h_assign rfl rfl rfl rfl ?_; refine hx_nil ?_; refine hq_then ?_; refine hc_block ?_)
  refine hc_cut (id := 0) (Y := Unit) (fun _ => [(7, .int .u64 (numR ((bs.drop a).take m)))]) (fun _ => []) (fun _ => True) ?_ ?_
  · refine hc_loop (X := Nat) (fun i => [(0, .slice a1 bs.length c1), (1, .int .i64 (a : Int)), (2, .int .i64 (m : Int)), (7, .int .u64 (numR ((bs.drop a).take i))), (8, .int .i64 (i : Int))]) (fun _ => []) (fun i => i ≤ m) (fun i => m - i) 0 (.cons rfl (.cons rfl (.cons rfl (.cons rfl (.cons rfl .nil))))) (Nat.zero_le _) (fun _ h => h) ?_
    intro i hi
    by_cases hlt : i < m
    · have hx : bs ≠ [] := by
        intro e
        rw [e] at ha
        have : ([] : List Int).length = 0 := rfl
        omega
      obtain ⟨g1, o1, rfl, r1⟩ := k1.resolve_left hx
      have hai : a + i < bs.length := by omega
      have e1 : bs[((a : Int) + (i : Int)).toNat]? = some bs[a + i] := by
        rw [show ((a : Int) + (i : Int)).toNat = a + i by omega]
        exact List.getElem?_eq_getElem hai
      (refine hc_seq ?_; refine hc_seq ?_; refine hc_lex ?_; refine hx_plain rfl ?_; refine h_move rfl rfl rfl rfl ?_; refine hx_plain rfl ?_; refine h_move rfl rfl rfl rfl ?_; refine hx_plain rfl ?_; refine h_cmp rfl rfl rfl rfl rfl rfl ?_; refine hx_nil ?_; refine hq_then ?_; refine hc_condDT rfl (by omega) ?_; refine hc_skip ?_; refine hq_then ?_; refine hc_seq ?_; refine hc_block ?_; refine hc_lex ?_; refine hx_plain rfl ?_; refine h_move rfl rfl rfl rfl ?_; refine hx_plain rfl ?_; refine h_arith rfl rfl rfl rfl rfl rfl ?_; refine hx_plain rfl ?_; refine h_move rfl rfl rfl rfl ?_; refine hx_plain rfl ?_; refine h_move rfl rfl rfl rfl ?_; refine hx_plain rfl ?_; refine h_move rfl rfl rfl rfl ?_; refine hx_plain rfl ?_; refine h_arithI rfl rfl rfl rfl (by omega) rfl rfl ?_; refine hx_plain rfl ?_; refine h_indexAddr rfl rfl rfl UC.out IC.size (by omega) (by omega) rfl rfl ?_; refine hx_plain rfl ?_; refine h_rdLoad1 rfl r1 rfl UC.out rfl (by with_reducible assumption) rfl rfl rfl ?_; refine hx_plain rfl ?_; refine h_convInt rfl rfl UC.out UC.out rfl rfl ?_; refine hx_plain rfl ?_; refine h_arith rfl rfl rfl rfl rfl rfl ?_; refine hx_plain rfl ?_; refine h_assign rfl rfl rfl rfl ?_; refine hx_nil ?_; refine hq_norm_block ?_; refine hq_then ?_; refine hc_lex ?_; refine hx_plain rfl ?_; refine h_move rfl rfl rfl rfl ?_; refine hx_plain rfl ?_; refine h_arithI rfl rfl rfl rfl (by omega) rfl rfl ?_; refine hx_plain rfl ?_; refine h_assign rfl rfl rfl rfl ?_; refine hx_nil ?_)
      have hL : i < (bs.drop a).length := by rw [List.length_drop]; omega
      have hg : (bs.drop a)[i] = bs[a + i] := List.getElem_drop
      have hbt : Byts ((bs.drop a).take i) := fun x hx => hb x (List.mem_of_mem_drop (List.mem_of_mem_take hx))
      have hlt7 : ((bs.drop a).take i).length ≤ 7 := by rw [List.length_take]; omega
      obtain ⟨n1, n2, n3⟩ := numR_eq hbt (by omega)
      have n4 := pow256_le hlt7
      have n5 : (256 : Int) ^ 7 = 72057594037927936 := by decide
      refine hq_round (i + 1) (by omega) (by omega) (.cons rfl (.cons rfl (.cons rfl (.cons ?_ (.cons rfl .nil))))) (fun _ h => h)
      rw [numR_succ hL, hg, ← get_step ⟨by rw [n1]; exact n2, by rw [n1]; omega⟩ (hb _ (List.getElem_mem hai))]
      rfl
    · obtain rfl : i = m := by omega
      (refine hc_seq ?_; refine hc_seq ?_; refine hc_lex ?_; refine hx_plain rfl ?_; refine h_move rfl rfl rfl rfl ?_; refine hx_plain rfl ?_; refine h_move rfl rfl rfl rfl ?_; refine hx_plain rfl ?_; refine h_cmp rfl rfl rfl rfl rfl rfl ?_; refine hx_nil ?_; refine hq_then ?_; refine hc_condDF rfl (by omega) ?_; refine hc_exit ?_; refine hq_exit_then ?_; refine hq_exit_then ?_)
      exact hq_cut () trivial (.cons rfl .nil) (fun _ h => h)
  · rintro ⟨⟩ _
    (refine hq_exit_block ?_; refine hq_then ?_; refine hc_seq ?_; refine hc_lex ?_; refine hx_plain rfl ?_; refine h_move rfl rfl rfl rfl ?_; refine hx_plain rfl ?_; refine h_assign rfl rfl rfl rfl ?_; refine hx_nil ?_; refine hq_then ?_; refine hc_ret ?_)
    exact hq_ret1 (.inr rfl) rfl rfl ⟨rfl, rfl⟩ (fun _ h => h.emp)
def shpOf (xs : List Int) : Shp := ⟨xs.getD 0 0, xs.getD 1 0, xs.getD 2 0, xs.getD 3 0, xs.getD 4 0, xs.getD 5 0, xs.getD 6 0, xs.getD 7 0⟩
set_option maxHeartbeats 1000000 in
theorem rshape_makes {w : World} {xs : List Int} {v : Value} (h1 : Rd intE w v xs) (hl : xs.length = 8) : Makes Tryd.prog 48 [v] w (fun u M => u = (shpOf xs).v ∧ M = []) := by
  obtain ⟨a1, c1, rfl, l1, m1, k1⟩ := h1
  match xs, hl with
  | [x0, x1, x2, x3, x4, x5, x6, x7], _ =>
    obtain ⟨g1, o1, rfl, r1⟩ := k1.resolve_left (by simp)
    refine makes_of Tryd.func48 rfl rfl (Nat.le_of_ble_eq_true rfl) ?_
    have e0 : [x0, x1, x2, x3, x4, x5, x6, x7][(0 : Int).toNat]? = some x0 := rfl
    have e1 : [x0, x1, x2, x3, x4, x5, x6, x7][(1 : Int).toNat]? = some x1 := rfl
    have e2 : [x0, x1, x2, x3, x4, x5, x6, x7][(2 : Int).toNat]? = some x2 := rfl
    have e3 : [x0, x1, x2, x3, x4, x5, x6, x7][(3 : Int).toNat]? = some x3 := rfl
    have e4 : [x0, x1, x2, x3, x4, x5, x6, x7][(4 : Int).toNat]? = some x4 := rfl
    have e5 : [x0, x1, x2, x3, x4, x5, x6, x7][(5 : Int).toNat]? = some x5 := rfl
    have e6 : [x0, x1, x2, x3, x4, x5, x6, x7][(6 : Int).toNat]? = some x6 := rfl
    have e7 : [x0, x1, x2, x3, x4, x5, x6, x7][(7 : Int).toNat]? = some x7 := rfl
    (refine hc_seq ?_; refine hc_lex ?_; refine hx_plain rfl ?_; (refine h_alloc rfl rfl IC.zero rfl rfl rfl (fun _ => ?_)); refine hx_nil ?_; refine hq_then ?_; refine hc_seq ?_; refine hc_draw0 (by kernel_rfl) (by kernel_rfl) ?_; refine hx_plain rfl ?_; refine h_move rfl rfl rfl rfl ?_; refine hx_plain rfl ?_; refine h_indexAddr rfl rfl rfl UC.out IC.size (by omega) (by omega) rfl rfl ?_; refine hx_plain rfl ?_; refine h_rdLoad1 rfl r1 rfl UC.out rfl (by with_reducible assumption) rfl rfl rfl ?_; refine hx_plain rfl ?_; refine h_move rfl rfl rfl rfl ?_; refine hx_plain rfl ?_; refine h_indexAddr rfl rfl rfl UC.out IC.size (by omega) (by omega) rfl rfl ?_; refine hx_plain rfl ?_; refine h_rdLoad1 rfl r1 rfl UC.out rfl (by with_reducible assumption) rfl rfl rfl ?_; refine hx_plain rfl ?_; refine h_move rfl rfl rfl rfl ?_; refine hx_plain rfl ?_; refine h_indexAddr rfl rfl rfl UC.out IC.size (by omega) (by omega) rfl rfl ?_; refine hx_plain rfl ?_; refine h_rdLoad1 rfl r1 rfl UC.out rfl (by with_reducible assumption) rfl rfl rfl ?_; refine hx_plain rfl ?_; refine h_move rfl rfl rfl rfl ?_; refine hx_plain rfl ?_; refine h_indexAddr rfl rfl rfl UC.out IC.size (by omega) (by omega) rfl rfl ?_; refine hx_plain rfl ?_; refine h_rdLoad1 rfl r1 rfl UC.out rfl (by with_reducible assumption) rfl rfl rfl ?_; refine hx_plain rfl ?_; refine h_move rfl rfl rfl rfl ?_; refine hx_plain rfl ?_; refine h_indexAddr rfl rfl rfl UC.out IC.size (by omega) (by omega) rfl rfl ?_; refine hx_plain rfl ?_; refine h_rdLoad1 rfl r1 rfl UC.out rfl (by with_reducible assumption) rfl rfl rfl ?_; refine hx_plain rfl ?_; refine h_move rfl rfl rfl rfl ?_; refine hx_plain rfl ?_; refine h_indexAddr rfl rfl rfl UC.out IC.size (by omega) (by omega) rfl rfl ?_; refine hx_plain rfl ?_; refine h_rdLoad1 rfl r1 rfl UC.out rfl (by with_reducible assumption) rfl rfl rfl ?_; refine hx_plain rfl ?_; refine h_move rfl rfl rfl rfl ?_; refine hx_plain rfl ?_; refine h_indexAddr rfl rfl rfl UC.out IC.size (by omega) (by omega) rfl rfl ?_; refine hx_plain rfl ?_; refine h_rdLoad1 rfl r1 rfl UC.out rfl (by with_reducible assumption) rfl rfl rfl ?_; refine hx_plain rfl ?_; refine h_move rfl rfl rfl rfl ?_; refine hx_plain rfl ?_; refine h_indexAddr rfl rfl rfl UC.out IC.size (by omega) (by omega) rfl rfl ?_; refine hx_plain rfl ?_; refine h_rdLoad1 rfl r1 rfl UC.out rfl (by with_reducible assumption) rfl rfl rfl ?_; refine hx_plain rfl ?_)
    refine h_build (vs := [(0, .int .i64 x0), (1, .int .i64 x1), (2, .int .i64 x2), (3, .int .i64 x3), (4, .int .i64 x4), (5, .int .i64 x5), (6, .int .i64 x6), (7, .int .i64 x7)]) (cs := [.int .i64 x0, .int .i64 x1, .int .i64 x2, .int .i64 x3, .int .i64 x4, .int .i64 x5, .int .i64 x6, .int .i64 x7]) rfl inferInstance (by kernel_rfl) (by kernel_rfl) rfl rfl ?_
    (refine hx_plain rfl ?_; refine h_store rfl rfl rfl rfl rfl rfl IC.size .head rfl rfl (Nat.le_of_ble_eq_true rfl) (List.all_eq_true.1 rfl) ?_; refine hx_nil ?_; refine hq_then ?_; refine hc_ret ?_)
    exact hq_R1 (.inr rfl) rfl (rv_cell rfl .head UC.out rfl IC.size) ⟨rfl, rfl⟩ (fun _ h => h.sub .nil)
end Go.Proofs.YtmdkboojafbpcaaDoor
