import Derived.Test.YtmdkboojafbpcaaDoorRp2
import Derived.Test.YtmdkboojafbpcaaDoorRf1
namespace Go.Proofs.YtmdkboojafbpcaaDoor
open Go Go.Proofs
set_option maxRecDepth 4000

theorem rstep_spec (h x : Int) : Spec0 Tryd.prog 59 [.int .u64 h, .int .u8 x] (.int .u64 (stepS h x)) := by
  refine spec_of Tryd.func59 rfl rfl (Nat.le_of_ble_eq_true rfl) (fun w F => ?_)
  (refine hc_seq ?_; refine hc_lex ?_; refine hx_plain rfl ?_; refine h_assign rfl rfl rfl rfl ?_; refine hx_nil ?_; refine hq_then ?_; refine hc_seq ?_; refine hc_lex ?_; refine hx_plain rfl ?_; refine h_move rfl rfl rfl rfl ?_; refine hx_plain rfl ?_; refine h_move rfl rfl rfl rfl ?_; refine hx_plain rfl ?_; refine h_convInt rfl rfl UC.out UC.out rfl rfl ?_; refine hx_plain rfl ?_; refine h_bits rfl rfl rfl rfl rfl rfl ?_; refine hx_plain rfl ?_; refine h_arith rfl rfl rfl rfl rfl rfl ?_; refine hx_plain rfl ?_; refine h_assign rfl rfl rfl rfl ?_; refine hx_nil ?_; refine hq_then ?_; refine hc_ret ?_)
  exact hq_ret1 (.inr rfl) rfl rfl ⟨rfl, rfl⟩ (fun _ h => h.emp)
set_option maxHeartbeats 1000000 in
theorem rmore_reads {bs : List Int} {w : World} {v : Value} (h : Int) (h1 : Rd byteE w v bs) :
    Calls Tryd.prog 52 [.int .u64 h, v].toArray w (fun en w' => en = .returned (.int .u64 (sumR h bs)) ∧ But w w' nowhere) := by
  obtain ⟨a1, c1, rfl, l1, m1, k1⟩ := h1
  unfold maxLen at m1
  refine reads_of Tryd.func52 rfl rfl (Nat.le_of_ble_eq_true rfl) ?_
  (refine hc_seq ?_; refine hc_lex ?_; refine hx_plain rfl ?_; refine h_assign rfl rfl rfl rfl ?_; refine hx_nil ?_; refine hq_then ?_; refine hc_seq ?_; refine hc_seq ?_; refine hc_lex ?_; refine hx_plain rfl ?_; refine h_assign rfl rfl rfl rfl ?_; refine hx_nil ?_; refine hq_then ?_; refine hc_block ?_)
  refine hc_cut (id := 0) (Y := Unit) (fun _ => [(0, .int .u64 (sumR h bs))]) (fun _ => []) (fun _ => True) ?_ ?_
  · refine hc_loop (X := Nat) (fun i => [(0, .int .u64 (sumR h (bs.take i))), (1, .slice a1 bs.length c1), (5, .int .i64 (i : Int))]) (fun _ => []) (fun i => i ≤ bs.length) (fun i => bs.length - i) 0 (.cons rfl (.cons rfl (.cons rfl .nil))) (Nat.zero_le _) (fun _ h => h) ?_
    intro i hi
    by_cases hlt : i < bs.length
    · have hx : bs ≠ [] := by
        intro e
        rw [e] at hlt
        exact absurd hlt (Nat.not_lt_zero _)
      obtain ⟨g1, o1, rfl, r1⟩ := k1.resolve_left hx
      have e1 : bs[((i : Nat) : Int).toNat]? = some bs[i] := List.getElem?_eq_getElem hlt
      (refine hc_seq ?_; refine hc_seq ?_; refine hc_lex ?_; refine hx_plain rfl ?_; refine h_move rfl rfl rfl rfl ?_; refine hx_plain rfl ?_; refine h_move rfl rfl rfl rfl ?_; refine hx_plain rfl ?_; refine h_len_slice rfl rfl rfl UC.out rfl rfl rfl ?_; refine hx_plain rfl ?_; refine h_cmp rfl rfl rfl rfl rfl rfl ?_; refine hx_nil ?_; refine hq_then ?_; refine hc_condDT rfl (by omega) ?_; refine hc_skip ?_; refine hq_then ?_; refine hc_seq ?_; refine hc_block ?_; refine hc_lex ?_; refine hx_plain rfl ?_; refine h_move rfl rfl rfl rfl ?_; refine hx_plain rfl ?_; refine h_move rfl rfl rfl rfl ?_; refine hx_plain rfl ?_; refine h_move rfl rfl rfl rfl ?_; refine hx_plain rfl ?_; refine h_indexAddr rfl rfl rfl UC.out IC.size (by omega) (by omega) rfl rfl ?_; refine hx_plain rfl ?_; refine h_rdLoad1 rfl r1 rfl UC.out rfl (by with_reducible assumption) rfl rfl rfl ?_; refine hx_plain rfl ?_)
      refine h_callR rfl rfl rfl rfl rfl rfl EC.out ((rstep_spec (sumR h (bs.take i)) bs[i]).reads _) ?_
      (refine hx_plain rfl ?_; refine h_assign rfl rfl rfl rfl ?_; refine hx_nil ?_; refine hq_norm_block ?_; refine hq_then ?_; refine hc_lex ?_; refine hx_plain rfl ?_; refine h_move rfl rfl rfl rfl ?_; refine hx_plain rfl ?_; refine h_arithI rfl rfl rfl rfl (by omega) rfl rfl ?_; refine hx_plain rfl ?_; refine h_assign rfl rfl rfl rfl ?_; refine hx_nil ?_)
      refine hq_round (i + 1) (by omega) (by omega) (.cons ?_ (.cons rfl (.cons rfl .nil))) (fun _ h => h)
      rw [sumR_succ hlt]
      rfl
    · (refine hc_seq ?_; refine hc_seq ?_; refine hc_lex ?_; refine hx_plain rfl ?_; refine h_move rfl rfl rfl rfl ?_; refine hx_plain rfl ?_; refine h_move rfl rfl rfl rfl ?_; refine hx_plain rfl ?_; refine h_len_slice rfl rfl rfl UC.out rfl rfl rfl ?_; refine hx_plain rfl ?_; refine h_cmp rfl rfl rfl rfl rfl rfl ?_; refine hx_nil ?_; refine hq_then ?_; refine hc_condDF rfl (by omega) ?_; refine hc_exit ?_; refine hq_exit_then ?_; refine hq_exit_then ?_)
      refine hq_cut () trivial (.cons ?_ .nil) (fun _ h => h)
      rw [List.take_of_length_le (by omega)]
      rfl
  · rintro ⟨⟩ _
    (refine hq_exit_block ?_; refine hq_then ?_; refine hc_seq ?_; refine hc_lex ?_; refine hx_plain rfl ?_; refine h_move rfl rfl rfl rfl ?_; refine hx_plain rfl ?_; refine h_assign rfl rfl rfl rfl ?_; refine hx_nil ?_; refine hq_then ?_; refine hc_ret ?_)
    exact hq_ret1 (.inr rfl) rfl rfl ⟨rfl, rfl⟩ (fun _ h => h.emp)
theorem rsum_reads {bs : List Int} {w : World} {v : Value} (h1 : Rd byteE w v bs) :
    Calls Tryd.prog 39 [v].toArray w (fun en w' => en = .returned (.int .u64 (sumR off0 bs)) ∧ But w w' nowhere) := by
  refine reads_of Tryd.func39 rfl rfl (Nat.le_of_ble_eq_true rfl) ?_
  (refine hc_seq ?_; refine hc_lex ?_; refine hx_plain rfl ?_; refine h_assign rfl rfl rfl rfl ?_; refine hx_nil ?_; refine hq_then ?_; refine hc_seq ?_; refine hc_lex ?_; refine hx_plain rfl ?_; refine h_move rfl rfl rfl rfl ?_; refine hx_plain rfl ?_)
  refine h_callRd rfl rfl rfl rfl rfl rfl EC.out (fun w' h => rmore_reads off0 (h.rd h1)) ?_
  (refine hx_plain rfl ?_; refine h_assign rfl rfl rfl rfl ?_; refine hx_nil ?_; refine hq_then ?_; refine hc_ret ?_)
  exact hq_ret1 (.inr rfl) rfl rfl ⟨rfl, rfl⟩ (fun _ h => h.emp)
theorem dg_get (x : Int) : ∀ (m k : Nat), k < m → (dg x m)[k]? = some (IntKind.u8.wrap (x / 2 ^ (8 * (m - 1 - k))))
  | m + 1, 0, _ => by rw [dg, List.getElem?_cons_zero, show m + 1 - 1 - 0 = m by omega]
  | m + 1, k + 1, h => by rw [dg, List.getElem?_cons_succ, dg_get x m k (by omega), show m + 1 - 1 - (k + 1) = m - 1 - k by omega]
set_option maxHeartbeats 1000000 in
theorem rput_makes {bs : List Int} {w : World} {v : Value} (x : Int) (m : Nat) (hm : 1 ≤ m ∧ m ≤ 8) (h1 : Rd byteE w v bs) (hl : bs.length ≤ 1000000) :
    Makes Tryd.prog 38 [v, .int .u64 x, .int .i64 (m : Int)] w (fun u M => M = [RowV byteE 5 u (bs ++ dg x m)]) := by
  refine makes_of Tryd.func38 rfl rfl (Nat.le_of_ble_eq_true rfl) ?_
  (refine hc_seq ?_; refine hc_lex ?_; refine hx_plain rfl ?_; refine h_assign rfl rfl rfl rfl ?_; refine hx_nil ?_; refine hq_then ?_; refine hc_seq ?_; refine hc_lex ?_; refine hx_plain rfl ?_; refine h_move rfl rfl rfl rfl ?_; refine hx_plain rfl ?_)
  refine h_callW (post := fun u M => M = [RowV byteE 5 u bs]) rfl rfl rfl rfl rfl rfl rfl rfl EC.out (fun w' h => bytes_makes (h.rd h1) (by omega)) ?_
  rintro v0 M rfl
  (refine hx_plain rfl ?_; refine h_assign rfl rfl rfl rfl ?_; refine hx_nil ?_; refine hq_then ?_; refine hc_seq ?_; refine hc_seq ?_; refine hc_lex ?_; refine hx_plain rfl ?_; refine h_move rfl rfl rfl rfl ?_; refine hx_plain rfl ?_; refine h_arithI rfl rfl rfl rfl (by omega) rfl rfl ?_; refine hx_plain rfl ?_; refine h_assign rfl rfl rfl rfl ?_; refine hx_nil ?_; refine hq_then ?_; refine hc_block ?_)
  refine hc_cut (id := 0) (Y := Value) (fun v => [(7, v)]) (fun v => [RowV byteE 5 v (bs ++ dg x m)]) (fun _ => True) ?_ ?_
  · refine hc_loop (X := Nat × Value) (fun y => [(1, .int .u64 x), (7, y.2), (8, .int .i64 ((m : Int) - 1 - (y.1 : Int)))]) (fun y => [RowV byteE 5 y.2 (bs ++ (dg x m).take y.1)]) (fun y => y.1 ≤ m) (fun y => m - y.1) (0, v0) (.cons rfl (.cons rfl (.cons (by show some (Value.int .i64 ((m : Int) - 1)) = some (Value.int .i64 ((m : Int) - 1 - ((0 : Nat) : Int))); rw [show ((0 : Nat) : Int) = 0 from rfl, Int.sub_zero]) .nil))) (Nat.zero_le _) (fun _ h => by rw [List.take_zero, List.append_nil]; exact h) ?_
    rintro ⟨k, v⟩ hk
    dsimp only at hk ⊢
    by_cases hlt : k < m
    · have hlen : (bs ++ (dg x m).take k).length = bs.length + k := by rw [List.length_append, List.length_take, dg_len]; omega
      (refine hc_seq ?_; refine hc_seq ?_; refine hc_lex ?_; refine hx_plain rfl ?_; refine h_move rfl rfl rfl rfl ?_; refine hx_plain rfl ?_; refine h_cmp rfl rfl rfl rfl rfl rfl ?_; refine hx_nil ?_; refine hq_then ?_; refine hc_condDT rfl (by omega) ?_; refine hc_skip ?_; refine hq_then ?_; refine hc_seq ?_; refine hc_block ?_; refine hc_lex ?_; refine hx_plain rfl ?_; refine h_move rfl rfl rfl rfl ?_; refine hx_plain rfl ?_; refine h_move rfl rfl rfl rfl ?_; refine hx_plain rfl ?_; refine h_move rfl rfl rfl rfl ?_; refine hx_plain rfl ?_; refine h_arithI rfl rfl rfl rfl (by omega) rfl rfl ?_; refine hx_plain rfl ?_; refine h_shrU rfl rfl rfl (by omega) rfl rfl ?_; refine hx_plain rfl ?_; refine h_convInt rfl rfl UC.out UC.out rfl rfl ?_; refine hx_plain rfl ?_; (refine h_buildSliceB rfl rfl rfl UC.out IC.size IC.zero rfl rfl rfl (by omega) rfl rfl (fun _ => ?_)); refine hx_plain rfl ?_)
      refine h_append (m := 1) (E := byteE) (T := 5) (xs := bs ++ (dg x m).take k) (ys := [IntKind.u8.wrap (x / 2 ^ (8 * ((m : Int) - 1 - (k : Int))).toNat)]) rfl rfl rfl rfl rfl UC.out IC.out rfl (.cons (.tail .head) (.cons .head .nil)) rfl (one_row byteE _) (by unfold maxLen; omega) (by omega) rfl rfl (fun v' _ => ?_)
      (refine hx_plain rfl ?_; refine h_assign rfl rfl rfl rfl ?_; refine hx_nil ?_; refine hq_norm_block ?_; refine hq_then ?_; refine hc_lex ?_; refine hx_plain rfl ?_; refine h_move rfl rfl rfl rfl ?_; refine hx_plain rfl ?_; refine h_arithI rfl rfl rfl rfl (by omega) rfl rfl ?_; refine hx_plain rfl ?_; refine h_assign rfl rfl rfl rfl ?_; refine hx_nil ?_)
      refine hq_round (k + 1, v') (by show m - (k + 1) < m - k; omega) (by show k + 1 ≤ m; omega) (.cons rfl (.cons rfl (.cons ?_ .nil))) (fun _ h => ?_)
      · show some (Value.int .i64 ((m : Int) - 1 - (k : Int) - 1)) = some (Value.int .i64 ((m : Int) - 1 - ((k + 1 : Nat) : Int)))
        rw [show (m : Int) - 1 - (k : Int) - 1 = (m : Int) - 1 - ((k + 1 : Nat) : Int) by omega]
      · show St w nowhere [RowV byteE 5 v' (bs ++ (dg x m).take (k + 1))] _
        have hkl : k < (dg x m).length := by rw [dg_len]; exact hlt
        have hg := dg_get x m k hlt
        rw [List.getElem?_eq_getElem hkl] at hg
        injection hg with hg
        rw [take_succ1 hkl, hg, ← List.append_assoc, show 8 * (m - 1 - k) = (8 * ((m : Int) - 1 - (k : Int))).toNat by omega]
        exact h.sub (.cons .head .nil)
    · (refine hc_seq ?_; refine hc_seq ?_; refine hc_lex ?_; refine hx_plain rfl ?_; refine h_move rfl rfl rfl rfl ?_; refine hx_plain rfl ?_; refine h_cmp rfl rfl rfl rfl rfl rfl ?_; refine hx_nil ?_; refine hq_then ?_; refine hc_condDF rfl (by omega) ?_; refine hc_exit ?_; refine hq_exit_then ?_; refine hq_exit_then ?_)
      refine hq_cut v trivial (.cons rfl .nil) (fun _ h => ?_)
      rw [List.take_of_length_le (by rw [dg_len]; omega)] at h
      exact h
  · rintro v _
    (refine hq_exit_block ?_; refine hq_then ?_; refine hc_seq ?_; refine hc_lex ?_; refine hx_plain rfl ?_; refine h_move rfl rfl rfl rfl ?_; refine hx_plain rfl ?_; refine h_assign rfl rfl rfl rfl ?_; refine hx_nil ?_; refine hq_then ?_; refine hc_ret ?_)
    refine hq_ret1 (.inr rfl) rfl rfl rfl (fun _ h => h)
set_option maxHeartbeats 8000000 in
theorem rsuper_makes {w : World} (s : Shp) : Makes Tryd.prog 19 [s.v] w (fun v M => ∃ u, v = .tuple #[u, .int .i64 (planR s).2] ∧ M = [RowV byteE 5 u (superB s)]) := by
  refine makes_of Tryd.func19 rfl rfl (Nat.le_of_ble_eq_true rfl) ?_
  obtain ⟨pl, hpl⟩ : ∃ pl, planR s = pl := ⟨_, rfl⟩
  have hr := rplan_spec s
  rw [hpl] at hr
  obtain ⟨ly, er⟩ := pl
  rw [hpl]
  dsimp only at hr ⊢
  (refine hc_seq ?_; refine hc_lex ?_; refine hx_plain rfl ?_; (refine h_box rfl rfl rfl rfl rfl rfl (fun _ => ?_)); refine hx_plain rfl ?_; refine h_assign rfl rfl rfl rfl ?_; refine hx_plain rfl ?_; refine h_assign rfl rfl rfl rfl ?_; refine hx_nil ?_; refine hq_then ?_; refine hc_seq ?_; refine hc_lex ?_; refine hx_plain rfl ?_; refine h_loadP rfl rfl UC.out rfl IC.size .head rfl rfl rfl rfl ?_; refine hx_plain rfl ?_)
  refine h_callR rfl rfl rfl rfl rfl rfl EC.out (hr.reads _) ?_
  by_cases he : er = 0
  · subst he
    have hsb : superB s = superR s := by unfold superB; rw [hpl]; rfl
    rw [hsb]
    (refine hx_plain rfl ?_; refine h_move rfl rfl rfl rfl ?_; refine hx_plain rfl ?_; refine h_extract rfl rfl rfl rfl rfl ?_; refine hx_plain rfl ?_; refine h_extract rfl rfl rfl rfl rfl ?_; refine hx_plain rfl ?_; (refine h_alloc rfl rfl IC.zero rfl rfl rfl (fun _ => ?_)); refine hx_plain rfl ?_; refine h_store rfl rfl rfl rfl rfl rfl IC.size .head rfl rfl (Nat.le_of_ble_eq_true rfl) (List.all_eq_true.1 rfl) ?_; refine hx_plain rfl ?_; refine h_assign rfl rfl rfl rfl ?_; refine hx_nil ?_; refine hq_then ?_; refine hc_seq ?_; refine hc_seq ?_; refine hc_lex ?_; refine hx_plain rfl ?_; refine h_move rfl rfl rfl rfl ?_; refine hx_plain rfl ?_; refine h_cmp rfl rfl rfl rfl rfl rfl ?_; refine hx_nil ?_; refine hq_then ?_; refine hc_condF rfl ?_; refine hc_skip ?_; refine hq_then ?_; refine hc_seq ?_; refine hc_lex ?_; refine hx_plain rfl ?_; (refine h_buildSliceB rfl rfl rfl UC.out IC.size IC.zero rfl rfl rfl (by omega) rfl rfl (fun _ => ?_)); refine hx_plain rfl ?_; refine h_assign rfl rfl rfl rfl ?_; refine hx_nil ?_; refine hq_then ?_; refine hc_seq ?_; refine hc_lex ?_; refine hx_plain rfl ?_; refine h_loadP rfl rfl UC.out rfl IC.size (.tail (.tail .head)) rfl rfl rfl rfl ?_; refine hx_plain rfl ?_)
    refine h_call rfl rfl rfl rfl rfl rfl rfl rfl EC.out .nil (rnumbers_spec s) ?_
    rintro v M ⟨gn, rfl, rfl⟩
    (refine hx_plain rfl ?_; refine h_assign rfl rfl rfl rfl ?_; refine hx_nil ?_; refine hq_then ?_; refine hc_seq ?_; refine hc_seq ?_; refine hc_lex ?_; refine hx_plain rfl ?_; refine h_assign rfl rfl rfl rfl ?_; refine hx_nil ?_; refine hq_then ?_; refine hc_block ?_)
    rename_i bl bb
    refine hc_cut (id := 0) (Y := Value) (fun v => [(6, v)]) (fun v => [Holds byteE [(v, hdR s)]]) (fun _ => True) ?_ ?_
    · refine hc_loop (X := Nat × Value) (fun x => [(6, x.2), (7, .slice (some ⟨gn, 0, none⟩) 8 8), (8, .int .i64 (x.1 : Int))]) (fun x => [Holds byteE [(x.2, hdN s x.1)], Blk gn (.cells (nmL s).toArray 3)]) (fun x => x.1 ≤ 8) (fun x => 8 - x.1) (0, .slice (some ⟨bb, 0, none⟩) 4 4) (.cons rfl (.cons rfl (.cons rfl .nil))) (Nat.zero_le _) (fun _ h => ?_) ?_
      · exact St.blk_holds [65, 78, 88, 83] (h.sub (.cons (.tail .head) (.cons .head .nil))) rfl (by decide) (flat_row byteE [65, 78, 88, 83])
      rintro ⟨i, v⟩ hi
      dsimp only at hi ⊢
      by_cases hlt : i < 8
      · have hl8 : i < s.l.length := hlt
        have k1 : nth (nmL s).toArray.toList (((i : Nat) : Int).toNat * 1) = some (.int .i64 s.l[i]) := by
          rw [nth_eq, Nat.mul_one]
          have : (nmL s)[i]? = (s.l.map (Value.int .i64))[i]? := rfl
          show (nmL s)[i]? = _
          rw [this, List.getElem?_map, List.getElem?_eq_getElem hl8]
          rfl
        (refine hc_seq ?_; refine hc_seq ?_; refine hc_lex ?_; refine hx_plain rfl ?_; refine h_move rfl rfl rfl rfl ?_; refine hx_plain rfl ?_; refine h_move rfl rfl rfl rfl ?_; refine hx_plain rfl ?_; refine h_len_slice rfl rfl rfl UC.out rfl rfl rfl ?_; refine hx_plain rfl ?_; refine h_cmp rfl rfl rfl rfl rfl rfl ?_; refine hx_nil ?_; refine hq_then ?_; refine hc_condDT rfl (by omega) ?_; refine hc_skip ?_; refine hq_then ?_; refine hc_seq ?_; refine hc_block ?_; refine hc_lex ?_; refine hx_plain rfl ?_; refine h_move rfl rfl rfl rfl ?_; refine hx_plain rfl ?_; refine h_move rfl rfl rfl rfl ?_; refine hx_plain rfl ?_; refine h_move rfl rfl rfl rfl ?_; refine hx_plain rfl ?_; refine h_rowAddr rfl rfl rfl UC.out IC.size (by omega) (by omega) rfl rfl ?_; refine hx_plain rfl ?_)
        refine h_load (v := .int .i64 s.l[i]) rfl rfl UC.out rfl (.tail .head) k1 rfl rfl ?_
        (refine hx_plain rfl ?_; refine h_convInt rfl rfl UC.out UC.out rfl rfl ?_; refine hx_plain rfl ?_)
        refine h_callW (post := fun u M => M = [RowV byteE 5 u (hdN s i ++ dg (IntKind.u64.wrap s.l[i]) 4)]) rfl rfl rfl rfl rfl rfl rfl rfl EC.out (fun w' h => rput_makes _ 4 (by decide) (h.rdHolds .head (.head _)) (by rw [hdN_len s hi]; omega)) ?_
        rintro u M rfl
        (refine hx_plain rfl ?_; refine h_assign rfl rfl rfl rfl ?_; refine hx_nil ?_; refine hq_norm_block ?_; refine hq_then ?_; refine hc_lex ?_; refine hx_plain rfl ?_; refine h_move rfl rfl rfl rfl ?_; refine hx_plain rfl ?_; refine h_arithI rfl rfl rfl rfl (by omega) rfl rfl ?_; refine hx_plain rfl ?_; refine h_assign rfl rfl rfl rfl ?_; refine hx_nil ?_)
        refine hq_round (i + 1, u) (by show 8 - (i + 1) < 8 - i; omega) (by show i + 1 ≤ 8; omega) (.cons rfl (.cons rfl (.cons rfl .nil))) (fun _ h => ?_)
        show St w nowhere [Holds byteE [(u, hdN s (i + 1))], Blk gn (.cells (nmL s).toArray 3)] _
        rw [hdN_succ s hl8]
        exact (h.rowV_holds).sub (.cons .head (.cons (.tail .head) .nil))
      · obtain rfl : i = 8 := by omega
        (refine hc_seq ?_; refine hc_seq ?_; refine hc_lex ?_; refine hx_plain rfl ?_; refine h_move rfl rfl rfl rfl ?_; refine hx_plain rfl ?_; refine h_move rfl rfl rfl rfl ?_; refine hx_plain rfl ?_; refine h_len_slice rfl rfl rfl UC.out rfl rfl rfl ?_; refine hx_plain rfl ?_; refine h_cmp rfl rfl rfl rfl rfl rfl ?_; refine hx_nil ?_; refine hq_then ?_; refine hc_condF rfl ?_; refine hc_exit ?_; refine hq_exit_then ?_; refine hq_exit_then ?_)
        exact hq_cut v trivial (.cons rfl .nil) (fun _ h => h.sub (.cons .head .nil))
    · rintro v _
      have hhl := hdR_len s
      have h44 : (hdR s ++ dg (sumR off0 (hdR s)) 8).length = 44 := by rw [List.length_append, hhl, dg_len]
      (refine hq_exit_block ?_; refine hq_then ?_; refine hc_seq ?_; refine hc_lex ?_; refine hx_plain rfl ?_; refine h_move rfl rfl rfl rfl ?_; refine hx_plain rfl ?_)
      refine h_callRd rfl rfl rfl rfl rfl rfl EC.out (fun w' h => rsum_reads (h.rdHolds .head (.head _))) ?_
      (refine hx_plain rfl ?_; refine h_assign rfl rfl rfl rfl ?_; refine hx_nil ?_; refine hq_then ?_; refine hc_seq ?_; refine hc_lex ?_; refine hx_plain rfl ?_; refine h_move rfl rfl rfl rfl ?_; refine hx_plain rfl ?_; refine h_move rfl rfl rfl rfl ?_; refine hx_plain rfl ?_)
      refine h_callW (post := fun u M => M = [RowV byteE 5 u (hdR s ++ dg (sumR off0 (hdR s)) 8)]) rfl rfl rfl rfl rfl rfl rfl rfl EC.out (fun w' h => rput_makes _ 8 (by decide) (h.rdHolds .head (.head _)) (by omega)) ?_
      rintro u M rfl
      (refine hx_plain rfl ?_; refine h_assign rfl rfl rfl rfl ?_; refine hx_nil ?_; refine hq_then ?_; refine hc_seq ?_; refine hc_lex ?_; refine hx_plain rfl ?_; refine h_move rfl rfl rfl rfl ?_; refine hx_plain rfl ?_)
      refine h_lenV rfl rfl .head rfl UC.out rfl rfl rfl ?_
      rw [h44]
      (refine hx_plain rfl ?_; refine h_arithI rfl rfl rfl rfl (by omega) rfl rfl ?_; refine hx_plain rfl ?_)
      refine h_callW (post := fun u M => M = [RowV byteE 5 u (List.replicate 468 0)]) rfl rfl rfl rfl rfl rfl rfl rfl EC.out (fun w' h => zeros_makes 468 (by decide)) ?_
      rintro u2 M rfl
      (refine hx_plain rfl ?_; refine h_assign rfl rfl rfl rfl ?_; refine hx_nil ?_; refine hq_then ?_; refine hc_seq ?_; refine hc_lex ?_; refine hx_plain rfl ?_; refine h_move rfl rfl rfl rfl ?_; refine hx_plain rfl ?_; refine h_move rfl rfl rfl rfl ?_; refine hx_plain rfl ?_)
      refine h_callW (post := fun u M => M = [RowV byteE 5 u (hdR s ++ dg (sumR off0 (hdR s)) 8 ++ List.replicate 468 0)]) rfl rfl rfl rfl rfl rfl rfl rfl EC.out (fun w' h => join_makes (h.rdRowV (.tail .head)) (h.rdRowV .head) (by rw [h44, List.length_replicate]; omega)) ?_
      rintro u3 M rfl
      (refine hx_plain rfl ?_; refine h_assign rfl rfl rfl rfl ?_; refine hx_plain rfl ?_; refine h_assign rfl rfl rfl rfl ?_; refine hx_nil ?_; refine hq_then ?_; refine hc_ret ?_)
      exact hq_R2 (.inr rfl) rfl (rv_tmp rfl) (rv_tmp rfl) ⟨_, rfl, rfl⟩ (fun _ h => h.sub (.cons .head .nil))
  · have hsb : superB s = [] := by unfold superB; rw [hpl]; exact if_neg he
    rw [hsb]
    (refine hx_plain rfl ?_; refine h_move rfl rfl rfl rfl ?_; refine hx_plain rfl ?_; refine h_extract rfl rfl rfl rfl rfl ?_; refine hx_plain rfl ?_; refine h_extract rfl rfl rfl rfl rfl ?_; refine hx_plain rfl ?_; (refine h_alloc rfl rfl IC.zero rfl rfl rfl (fun _ => ?_)); refine hx_plain rfl ?_; refine h_store rfl rfl rfl rfl rfl rfl IC.size .head rfl rfl (Nat.le_of_ble_eq_true rfl) (List.all_eq_true.1 rfl) ?_; refine hx_plain rfl ?_; refine h_assign rfl rfl rfl rfl ?_; refine hx_nil ?_; refine hq_then ?_; refine hc_seq ?_; refine hc_seq ?_; refine hc_lex ?_; refine hx_plain rfl ?_; refine h_move rfl rfl rfl rfl ?_; refine hx_plain rfl ?_; refine h_cmp rfl rfl rfl rfl rfl rfl ?_; refine hx_nil ?_; refine hq_then ?_; refine hc_condDT rfl (by omega) ?_; refine hc_seq ?_; refine hc_lex ?_; refine hx_plain rfl ?_; refine h_move rfl rfl rfl rfl ?_; refine hx_plain rfl ?_; refine h_assign rfl rfl rfl rfl ?_; refine hx_plain rfl ?_; refine h_assign rfl rfl rfl rfl ?_; refine hx_nil ?_; refine hq_then ?_; refine hc_ret ?_; refine hq_ret_then ?_)
    exact hq_R2 (.inr rfl) rfl (rv_tmp rfl) (rv_tmp rfl) ⟨_, rfl, rfl⟩ (fun _ h => St.rowV_nil (h.sub .nil))
end Go.Proofs.YtmdkboojafbpcaaDoor
