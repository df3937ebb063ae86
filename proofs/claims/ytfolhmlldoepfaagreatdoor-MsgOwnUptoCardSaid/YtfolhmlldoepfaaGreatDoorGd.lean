import Derived.Test.YtfolhmlldoepfaaGreatDoorGo
import Derived.Test.YtfolhmlldoepfaaGreatDoorGr
namespace Go.Proofs.YtfolhmlldoepfaaGreatDoor
open Go Go.Proofs Go.RowKit
set_option maxRecDepth 4000
theorem rstep_spec (h x : Int) : Spec0 Tryz.prog 138 [.int .u64 h, .int .u8 x] (.int .u64 (stepS h x)) := by
  refine spec_of Tryz.func138 rfl rfl (Nat.le_of_ble_eq_true rfl) (fun w F => ?_)
  (refine Zx rfl rfl rfl rfl rfl ?_; refine Zw rfl rfl rfl rfl rfl ?_; refine Zm rfl rfl rfl rfl rfl ?_; refine hx_plain rfl ?_; refine h_convInt rfl rfl UC.out UC.out rfl rfl ?_; refine hx_plain rfl ?_; refine h_bits rfl rfl rfl rfl rfl rfl ?_; refine hx_plain rfl ?_; refine h_arith rfl rfl rfl rfl rfl rfl ?_; refine Zn rfl rfl rfl rfl rfl ?_; refine hc_ret ?_)
  exact hq_ret1 (.inr rfl) rfl rfl ⟨rfl, rfl⟩ (fun _ h => h.emp)
set_option maxHeartbeats 1000000 in
theorem rmore_reads {bs : List Int} {w : World} {v : Value} (h : Int) (h1 : Rd byteE w v bs) :
    Calls Tryz.prog 132 [.int .u64 h, v].toArray w (fun en w' => en = .returned (.int .u64 (sumR h bs)) ∧ But w w' nowhere) := by
  obtain ⟨a1, c1, rfl, l1, m1, k1⟩ := h1
  unfold maxLen at m1
  refine reads_of Tryz.func132 rfl rfl (Nat.le_of_ble_eq_true rfl) ?_
  (refine Zx rfl rfl rfl rfl rfl ?_; refine hc_seq ?_; refine Zx rfl rfl rfl rfl rfl ?_; refine hc_block ?_)
  refine hc_cut (id := 0) (Y := Unit) (fun _ => [(0, .int .u64 (sumR h bs))]) (fun _ => []) (fun _ => True) ?_ ?_
  · refine hc_loop (X := Nat) (fun i => [(0, .int .u64 (sumR h (bs.take i))), (1, .slice a1 bs.length c1), (5, .int .i64 (i : Int))]) (fun _ => []) (fun i => i ≤ bs.length) (fun i => bs.length - i) 0 (.cons rfl (.cons rfl (.cons rfl .nil))) (Nat.zero_le _) (fun _ h => h) ?_
    intro i hi
    by_cases hlt : i < bs.length
    · have hx : bs ≠ [] := by
        intro e
        rw [e] at hlt
        exact absurd hlt (Nat.not_lt_zero _)
      obtain ⟨g1, o1, rfl, r1⟩ := k1.resolve_left hx
      have e1 : bs[((i : Nat) : Int).toNat]? = some bs[i] := List.getElem?_eq_getElem hlt
      (refine hc_seq ?_; refine Zw rfl rfl rfl rfl rfl ?_; refine Zm rfl rfl rfl rfl rfl ?_; refine hx_plain rfl ?_; refine h_len_slice rfl rfl rfl UC.out rfl rfl rfl ?_; refine Zc rfl rfl rfl rfl rfl rfl rfl ?_; refine Zt ?_; refine hc_condDT rfl (by omega) ?_; refine hc_skip ?_; refine hq_then ?_; refine hc_seq ?_; refine hc_block ?_; refine hc_lex ?_; (iterate 3 (refine Zm rfl rfl rfl rfl rfl ?_)); refine hx_plain rfl ?_; refine h_indexAddr rfl rfl rfl UC.out IC.size (by omega) (by omega) rfl rfl ?_; refine hx_plain rfl ?_; refine h_rdLoad1 rfl r1 rfl UC.out rfl (by with_reducible assumption) rfl rfl rfl ?_; refine hx_plain rfl ?_)
      refine h_callR rfl rfl rfl rfl rfl rfl EC.out ((rstep_spec (sumR h (bs.take i)) bs[i]).reads _) ?_
      (refine Za rfl rfl rfl rfl rfl ?_; refine hx_nil ?_; refine hq_norm_block ?_; refine hq_then ?_; refine hc_lex ?_; refine Zm rfl rfl rfl rfl rfl ?_; refine hx_plain rfl ?_; refine h_arithI rfl rfl rfl rfl (by omega) rfl rfl ?_; refine Za rfl rfl rfl rfl rfl ?_; refine hx_nil ?_)
      refine hq_round (i + 1) (by omega) (by omega) (.cons ?_ (.cons rfl (.cons rfl .nil))) (fun _ h => h)
      rw [sumR_succ hlt]
      rfl
    · (refine hc_seq ?_; refine Zw rfl rfl rfl rfl rfl ?_; refine Zm rfl rfl rfl rfl rfl ?_; refine hx_plain rfl ?_; refine h_len_slice rfl rfl rfl UC.out rfl rfl rfl ?_; refine Zc rfl rfl rfl rfl rfl rfl rfl ?_; refine Zt ?_; refine hc_condDF rfl (by omega) ?_; refine hc_exit ?_; (iterate 2 (refine hq_exit_then ?_)))
      refine hq_cut () trivial (.cons ?_ .nil) (fun _ h => h)
      rw [List.take_of_length_le (by omega)]
      rfl
  · rintro ⟨⟩ _
    (refine hq_exit_block ?_; refine hq_then ?_; refine Zw rfl rfl rfl rfl rfl ?_; refine Zn rfl rfl rfl rfl rfl ?_; refine hc_ret ?_)
    exact hq_ret1 (.inr rfl) rfl rfl ⟨rfl, rfl⟩ (fun _ h => h.emp)
theorem rsum_reads {bs : List Int} {w : World} {v : Value} (h1 : Rd byteE w v bs) :
    Calls Tryz.prog 103 [v].toArray w (fun en w' => en = .returned (.int .u64 (sumR off0 bs)) ∧ But w w' nowhere) := by
  refine reads_of Tryz.func103 rfl rfl (Nat.le_of_ble_eq_true rfl) ?_
  (refine Zx rfl rfl rfl rfl rfl ?_; refine Zw rfl rfl rfl rfl rfl ?_; refine hx_plain rfl ?_)
  refine h_callRd rfl rfl rfl rfl rfl rfl EC.out (fun w' h => rmore_reads off0 (h.rd h1)) ?_
  (refine Zn rfl rfl rfl rfl rfl ?_; refine hc_ret ?_)
  exact hq_ret1 (.inr rfl) rfl rfl ⟨rfl, rfl⟩ (fun _ h => h.emp)
theorem within_spec (x a b : Int) : Spec0 Tryz.prog 92 [.int .i64 x, .int .i64 a, .int .i64 b] (.bool (decide (a ≤ x ∧ x ≤ b))) := by
  refine spec_of Tryz.func92 rfl rfl (Nat.le_of_ble_eq_true rfl) (fun w F => ?_)
  (refine Zx rfl rfl rfl rfl rfl ?_; refine Zw rfl rfl rfl rfl rfl ?_; refine Zm rfl rfl rfl rfl rfl ?_; refine Zc rfl rfl rfl rfl rfl rfl rfl ?_; refine Zm rfl rfl rfl rfl rfl ?_; refine hx_gcaseD rfl rfl rfl (fun hc => ?_) (fun hc => ?_); (iterate 2 (refine hx_yes rfl rfl rfl ?_; refine h_move rfl rfl rfl rfl ?_)); refine hx_yes rfl rfl rfl ?_; refine h_cmp rfl rfl rfl rfl rfl rfl ?_; refine Zq rfl rfl rfl rfl rfl rfl ?_; refine Zn rfl rfl rfl rfl rfl ?_; refine hc_ret ?_; rotate_left; (iterate 3 (refine hx_skip rfl rfl rfl rfl rfl rfl ?_)); refine Zp rfl rfl rfl rfl rfl rfl ?_; refine Zn rfl rfl rfl rfl rfl ?_; refine hc_ret ?_; rotate_left)
  all_goals (refine hq_ret1 (.inr rfl) rfl rfl ⟨congrArg Value.bool ?_, rfl⟩ (fun _ h => h.emp); first | (rw [decide_eq_decide]; omega) | (rw [eq_comm, decide_eq_false_iff_not]; omega))
def hasL (op : Int) : List UInt8 := if op = 1 then [112] else if op = 2 then [105] else if op = 3 then [105, 111, 108] else if op = 4 then [105, 111, 100] else if op = 5 ∨ op = 6 ∨ op = 7 ∨ op = 8 then [105, 110] else if op = 9 then [105, 110, 106, 109] else if op = 10 then [105, 108, 110] else []
theorem has_spec (op : Int) : Spec0 Tryz.prog 79 [.int .i64 op] (.string ⟨(hasL op).toArray⟩) := by
  refine spec_of Tryz.func79 rfl rfl (Nat.le_of_ble_eq_true rfl) (fun w F => ?_)
  (refine Zx rfl rfl rfl rfl rfl ?_; refine hc_seq ?_; refine Zw rfl rfl rfl rfl rfl ?_; refine Zt ?_; refine hc_block ?_; (iterate 4 (refine Zl rfl ?_; refine h_cmp rfl rfl rfl rfl rfl rfl ?_; refine Zn rfl rfl rfl rfl rfl ?_; refine hc_condD rfl (fun hc => ?_) (fun hc => ?_); refine Zx rfl rfl rfl rfl rfl ?_; refine hc_ret ?_; refine hq_ret_block ?_; refine hq_ret_then ?_; rotate_left)); refine hc_seq ?_; (iterate 3 (refine Zl rfl ?_; refine h_cmp rfl rfl rfl rfl rfl rfl ?_; refine Zn rfl rfl rfl rfl rfl ?_; refine hc_condD rfl (fun hc => ?_) (fun hc => ?_); refine hc_skip ?_; refine hq_then ?_; refine hc_condDT rfl (by omega) ?_; refine Zx rfl rfl rfl rfl rfl ?_; refine hc_ret ?_; refine hq_ret_block ?_; refine hq_ret_then ?_; rotate_left)); refine hc_lex ?_; refine Zc rfl rfl rfl rfl rfl rfl rfl ?_; (iterate 2 (refine Zn rfl rfl rfl rfl rfl ?_; refine hc_condD rfl (fun hc => ?_) (fun hc => ?_); refine Zx rfl rfl rfl rfl rfl ?_; refine hc_ret ?_; refine hq_ret_block ?_; refine hq_ret_then ?_; rotate_left; refine Zl rfl ?_; refine h_cmp rfl rfl rfl rfl rfl rfl ?_)); refine Zn rfl rfl rfl rfl rfl ?_; refine hc_condD rfl (fun hc => ?_) (fun hc => ?_); refine Zx rfl rfl rfl rfl rfl ?_; refine hc_ret ?_; refine hq_ret_block ?_; refine hq_ret_then ?_; rotate_left; refine hc_skip ?_; refine hq_norm_block ?_; refine hq_then ?_; refine Zx rfl rfl rfl rfl rfl ?_; refine hc_ret ?_; rotate_left)
  all_goals (refine hq_ret1 (.inr rfl) rfl rfl ⟨congrArg Value.string ?_, rfl⟩ (fun _ h => h.emp); unfold hasL; first | (subst_vars; rfl) | (simp_all; done))
set_option maxHeartbeats 1000000 in
theorem in_spec (l : List UInt8) (c : UInt8) (hl : l.length ≤ 1000) : Spec0 Tryz.prog 80 [.string ⟨l.toArray⟩, .int .u8 (c.toNat : Int)] (.bool (l.contains c)) := by
  refine spec_of Tryz.func80 rfl rfl (Nat.le_of_ble_eq_true rfl) (fun w F => ?_)
  have hsz : (⟨l.toArray⟩ : ByteArray).size = l.length := by simp [ByteArray.size]
  (refine Zx rfl rfl rfl rfl rfl ?_; refine hc_seq ?_; refine Zx rfl rfl rfl rfl rfl ?_; refine hc_block ?_)
  refine hc_cut (id := 0) (Y := Unit) (fun _ => []) (fun _ => []) (fun _ => l.contains c = false) ?_ ?_
  · refine hc_loop (X := Nat) (fun i => [(0, .string ⟨l.toArray⟩), (1, .int .u8 (c.toNat : Int)), (5, .int .i64 (i : Int))]) (fun _ => []) (fun i => i ≤ l.length ∧ (l.take i).contains c = false) (fun i => l.length - i) 0 (.cons rfl (.cons rfl (.cons rfl .nil))) ⟨Nat.zero_le _, rfl⟩ (fun _ h => h.emp) ?_
    rintro i ⟨hi, hz⟩
    by_cases hlt : i < l.length
    · obtain ⟨b, hb⟩ : ∃ b, l[i] = b := ⟨_, rfl⟩
      have e1 : (⟨l.toArray⟩ : ByteArray).data[((i : Nat) : Int).toNat]? = some b := by rw [← hb]; simp [hlt]
      (refine hc_seq ?_; refine Zw rfl rfl rfl rfl rfl ?_; refine Zm rfl rfl rfl rfl rfl ?_; refine hx_plain rfl ?_; refine h_len_str rfl rfl UC.out rfl rfl rfl ?_; refine Zc rfl rfl rfl rfl rfl rfl rfl ?_; refine Zt ?_; refine hc_condDT rfl (by omega) ?_; refine hc_skip ?_; refine hq_then ?_; refine hc_seq ?_; refine hc_block ?_; refine Zw rfl rfl rfl rfl rfl ?_; refine Zm rfl rfl rfl rfl rfl ?_; refine hx_plain rfl ?_; refine h_indexS rfl rfl rfl UC.out (by omega) (by with_reducible assumption) rfl rfl ?_; refine Zm rfl rfl rfl rfl rfl ?_; refine Zc rfl rfl rfl rfl rfl rfl rfl ?_; refine Zt ?_; refine hc_condD rfl (fun hc => ?_) (fun hc => ?_); refine Zx rfl rfl rfl rfl rfl ?_; refine hc_ret ?_; refine hq_ret_block ?_; (iterate 2 (refine hq_ret_then ?_)); refine hq_cut_ret ?_; refine hq_ret_block ?_; refine hq_ret_then ?_; rotate_left; refine hc_skip ?_; refine hq_norm_block ?_; refine hq_then ?_; refine hc_lex ?_; refine Zm rfl rfl rfl rfl rfl ?_; refine hx_plain rfl ?_; refine h_arithI rfl rfl rfl rfl (by omega) rfl rfl ?_; refine Za rfl rfl rfl rfl rfl ?_; refine hx_nil ?_; rotate_left)
      · refine hq_ret1 (.inr rfl) rfl rfl ⟨congrArg Value.bool ?_, rfl⟩ (fun _ h => h.emp)
        have : b = c := UInt8.toNat_inj.1 (by omega)
        rw [eq_comm, List.contains_iff_mem, ← this, ← hb]
        exact List.getElem_mem hlt
      · refine hq_round (i + 1) (by omega) ⟨by omega, ?_⟩ (.cons rfl (.cons rfl (.cons rfl .nil))) (fun _ h => h)
        rw [take_succ1 hlt, List.contains_append, hz, Bool.false_or, hb]
        have : ¬ c = b := fun e => hc (by rw [e])
        simpa using this
    · (refine hc_seq ?_; refine Zw rfl rfl rfl rfl rfl ?_; refine Zm rfl rfl rfl rfl rfl ?_; refine hx_plain rfl ?_; refine h_len_str rfl rfl UC.out rfl rfl rfl ?_; refine Zc rfl rfl rfl rfl rfl rfl rfl ?_; refine Zt ?_; refine hc_condDF rfl (by omega) ?_; refine hc_exit ?_; (iterate 2 (refine hq_exit_then ?_)))
      refine hq_cut () ?_ .nil (fun _ h => h)
      rwa [List.take_of_length_le (by omega)] at hz
  rintro ⟨⟩ he
  (refine hq_exit_block ?_; refine hq_then ?_; refine Zx rfl rfl rfl rfl rfl ?_; refine hc_ret ?_)
  exact hq_ret1 (.inr rfl) rfl rfl ⟨by rw [he], rfl⟩ (fun _ h => h.emp)
theorem status_spec (c : Int) : Spec0 Tryz.prog 96 [.int .i64 c] (.bool (isSt c)) := by
  refine spec_of Tryz.func96 rfl rfl (Nat.le_of_ble_eq_true rfl) (fun w F => ?_)
  (refine Zx rfl rfl rfl rfl rfl ?_; refine hc_seq ?_; refine Zw rfl rfl rfl rfl rfl ?_; refine Zt ?_; refine hc_block ?_; refine hc_seq ?_; (iterate 12 (refine Zl rfl ?_; refine h_cmp rfl rfl rfl rfl rfl rfl ?_; refine Zn rfl rfl rfl rfl rfl ?_; refine hc_condD rfl (fun hc => ?_) (fun hc => ?_); refine hc_skip ?_; refine hq_then ?_; refine hc_condDT rfl (by omega) ?_; refine Zx rfl rfl rfl rfl rfl ?_; refine hc_ret ?_; refine hq_ret_block ?_; refine hq_ret_then ?_; rotate_left)); refine hc_lex ?_; refine Zc rfl rfl rfl rfl rfl rfl rfl ?_; refine Zn rfl rfl rfl rfl rfl ?_; refine hc_condD rfl (fun hc => ?_) (fun hc => ?_); refine Zx rfl rfl rfl rfl rfl ?_; refine hc_ret ?_; refine hq_ret_block ?_; refine hq_ret_then ?_; rotate_left; refine hc_skip ?_; refine hq_norm_block ?_; refine hq_then ?_; refine Zx rfl rfl rfl rfl rfl ?_; refine hc_ret ?_; rotate_left)
  all_goals (refine hq_ret1 (.inr rfl) rfl rfl ⟨congrArg Value.bool ?_, rfl⟩ (fun _ h => h.emp); unfold isSt; first | (rw [decide_eq_decide]; omega) | (rw [eq_comm, decide_eq_false_iff_not]; omega) | (rw [eq_comm, decide_eq_true_iff]; omega))
set_option maxHeartbeats 1000000 in
theorem rcheck_spec (s : ByteArray) : Spec0 Tryz.prog 128 [.string s] (.int .i64 (Nm.checkV s)) := by
  refine spec_of Tryz.func128 rfl rfl (Nat.le_of_ble_eq_true rfl) (fun w F => ?_)
  have h46 : (⟨#[46]⟩ : ByteArray).toList = [46] := by rw [ByteArray.toList_eq]
  have h462 : (⟨#[46, 46]⟩ : ByteArray).toList = [46, 46] := by rw [ByteArray.toList_eq]
  have hbad : (s.size < 1 ∨ 23 < s.size ∨ s.toList = [46] ∨ s.toList = [46, 46]) → 31 = Nm.checkV s := fun h => (if_pos h).symm
  have hl46 := h46
  rw [← h462, ← h46] at hbad
  have hds : s.data.toList.length = s.size := Array.length_toList
  (refine Zx rfl rfl rfl rfl rfl ?_; refine hc_seq ?_; refine Zw rfl rfl rfl rfl rfl ?_; refine hx_plain rfl ?_; refine h_len_str rfl rfl UC.out rfl rfl rfl ?_; refine Zc rfl rfl rfl rfl rfl rfl rfl ?_; refine Zm rfl rfl rfl rfl rfl ?_; refine hx_gcaseD rfl rfl rfl (fun hc => ?_) (fun hc => ?_); (iterate 3 (refine hx_skip rfl rfl rfl rfl rfl rfl ?_)); (iterate 2 (refine Zq rfl rfl rfl rfl rfl rfl ?_; refine Zm rfl rfl rfl rfl rfl ?_; (iterate 2 (refine hx_skip rfl rfl rfl rfl rfl rfl ?_)))); refine Zq rfl rfl rfl rfl rfl rfl ?_; refine Zt ?_; refine hc_condT rfl ?_; refine Zx rfl rfl rfl rfl rfl ?_; refine hc_ret ?_; refine hq_ret_then ?_; rotate_left; refine hx_yes rfl rfl rfl ?_; refine h_move rfl rfl rfl rfl ?_; refine hx_yes rfl rfl rfl ?_; refine h_len_str rfl rfl UC.out rfl rfl rfl ?_; refine hx_yes rfl rfl rfl ?_; refine h_cmp rfl rfl rfl rfl rfl rfl ?_; refine Zp rfl rfl rfl rfl rfl rfl ?_; refine Zm rfl rfl rfl rfl rfl ?_; refine hx_gcaseD rfl rfl rfl (fun hc => ?_) (fun hc => ?_); (iterate 2 (refine hx_skip rfl rfl rfl rfl rfl rfl ?_)); refine Zq rfl rfl rfl rfl rfl rfl ?_; refine Zm rfl rfl rfl rfl rfl ?_; (iterate 2 (refine hx_skip rfl rfl rfl rfl rfl rfl ?_)); refine Zq rfl rfl rfl rfl rfl rfl ?_; refine Zt ?_; refine hc_condT rfl ?_; refine Zx rfl rfl rfl rfl rfl ?_; refine hc_ret ?_; refine hq_ret_then ?_; rotate_left; refine hx_yes rfl rfl rfl ?_; refine h_move rfl rfl rfl rfl ?_; refine hx_yes rfl rfl rfl ?_; refine h_cmpS rfl rfl rfl rfl rfl rfl ?_; refine Zp rfl rfl rfl rfl rfl rfl ?_; refine Zm rfl rfl rfl rfl rfl ?_; refine hx_gcase rfl rfl rfl (fun hc => ?_) (fun hc => ?_); (iterate 2 (refine hx_skip rfl rfl rfl rfl rfl rfl ?_)); refine Zq rfl rfl rfl rfl rfl rfl ?_; refine Zt ?_; refine hc_condT rfl ?_; refine Zx rfl rfl rfl rfl rfl ?_; refine hc_ret ?_; refine hq_ret_then ?_; rotate_left; refine hx_yes rfl rfl rfl ?_; refine h_move rfl rfl rfl rfl ?_; refine hx_yes rfl rfl rfl ?_; refine h_cmpS rfl rfl rfl rfl rfl rfl ?_; refine Zp rfl rfl rfl rfl rfl rfl ?_; refine Zt ?_; refine hc_cond rfl (fun hc => ?_) (fun hc => ?_); refine Zx rfl rfl rfl rfl rfl ?_; refine hc_ret ?_; refine hq_ret_then ?_; rotate_left; refine hc_skip ?_; refine hq_then ?_; refine hc_seq ?_; refine Zx rfl rfl rfl rfl rfl ?_; refine hc_block ?_; rotate_left)
  · exact hq_ret1 (.inr rfl) rfl rfl ⟨congrArg (Value.int .i64) (hbad (.inl (by omega))), rfl⟩ (fun _ h => h.emp)
  · exact hq_ret1 (.inr rfl) rfl rfl ⟨congrArg (Value.int .i64) (hbad (.inr (.inl (by omega)))), rfl⟩ (fun _ h => h.emp)
  · exact hq_ret1 (.inr rfl) rfl rfl ⟨congrArg (Value.int .i64) (hbad (.inr (.inr (.inl (by simpa using hc))))), rfl⟩ (fun _ h => h.emp)
  · exact hq_ret1 (.inr rfl) rfl rfl ⟨congrArg (Value.int .i64) (hbad (.inr (.inr (.inr (by simpa using hc))))), rfl⟩ (fun _ h => h.emp)
  have hck : Nm.checkV s = if s.data.toList.all Nm.fineB then 0 else 31 := by
    unfold Nm.checkV
    rw [if_neg]
    rintro (h | h | h | h)
    · omega
    · omega
    · rw [← h46] at h
      simp_all
    · rw [← h462] at h
      simp_all
  refine hc_cut (id := 0) (Y := Unit) (fun _ => []) (fun _ => []) (fun _ => s.data.toList.all Nm.fineB = true) ?_ ?_
  · refine hc_loop (X := Nat) (fun i => [(0, .string s), (3, .int .i64 (i : Int))]) (fun _ => []) (fun i => i ≤ s.size ∧ (s.data.toList.take i).all Nm.fineB = true) (fun i => s.size - i) 0 (.cons rfl (.cons rfl .nil)) ⟨Nat.zero_le _, rfl⟩ (fun _ h => h.emp) ?_
    rintro i ⟨hi, hz⟩
    by_cases hlt : i < s.size
    · have hlt2 : i < s.data.toList.length := by omega
      obtain ⟨b, hb⟩ : ∃ b, s.data.toList[i] = b := ⟨_, rfl⟩
      have e1 : s.data[((i : Nat) : Int).toNat]? = some b := by
        rw [← Array.getElem?_toList]
        show s.data.toList[i]? = _
        rw [List.getElem?_eq_getElem hlt2, hb]
      have hbad2 : Nm.fineB b = false → 31 = Nm.checkV s := fun h => by
        rw [hck, if_neg]
        intro hall
        have := List.all_eq_true.1 hall b (by rw [← hb]; exact List.getElem_mem hlt2)
        rw [h] at this
        cases this
      (refine hc_seq ?_; refine Zw rfl rfl rfl rfl rfl ?_; refine Zm rfl rfl rfl rfl rfl ?_; refine hx_plain rfl ?_; refine h_len_str rfl rfl UC.out rfl rfl rfl ?_; refine Zc rfl rfl rfl rfl rfl rfl rfl ?_; refine Zt ?_; refine hc_condDT rfl (by omega) ?_; refine hc_skip ?_; refine hq_then ?_; refine hc_seq ?_; refine hc_block ?_; refine Zw rfl rfl rfl rfl rfl ?_; refine Zm rfl rfl rfl rfl rfl ?_; refine hx_plain rfl ?_; refine h_indexS rfl rfl rfl UC.out (by omega) (by with_reducible assumption) rfl rfl ?_; refine Zc rfl rfl rfl rfl rfl rfl rfl ?_; refine Zm rfl rfl rfl rfl rfl ?_; refine hx_gcaseD rfl rfl rfl (fun hc => ?_) (fun hc => ?_); (iterate 4 (refine hx_skip rfl rfl rfl rfl rfl rfl ?_)); refine Zq rfl rfl rfl rfl rfl rfl ?_; refine Zt ?_; refine hc_condT rfl ?_; refine Zx rfl rfl rfl rfl rfl ?_; refine hc_ret ?_; refine hq_ret_block ?_; (iterate 2 (refine hq_ret_then ?_)); refine hq_cut_ret ?_; refine hq_ret_block ?_; refine hq_ret_then ?_; rotate_left; (iterate 2 (refine hx_yes rfl rfl rfl ?_; refine h_move rfl rfl rfl rfl ?_)); refine hx_yes rfl rfl rfl ?_; refine h_indexS rfl rfl rfl UC.out (by omega) (by with_reducible assumption) rfl rfl ?_; refine hx_yes rfl rfl rfl ?_; refine h_cmp rfl rfl rfl rfl rfl rfl ?_; refine Zp rfl rfl rfl rfl rfl rfl ?_; refine Zt ?_; refine hc_condD rfl (fun hc => ?_) (fun hc => ?_); refine Zx rfl rfl rfl rfl rfl ?_; refine hc_ret ?_; refine hq_ret_block ?_; (iterate 2 (refine hq_ret_then ?_)); refine hq_cut_ret ?_; refine hq_ret_block ?_; refine hq_ret_then ?_; rotate_left; refine hc_skip ?_; refine hq_norm_block ?_; refine hq_then ?_; refine hc_lex ?_; refine Zm rfl rfl rfl rfl rfl ?_; refine hx_plain rfl ?_; refine h_arithI rfl rfl rfl rfl (by omega) rfl rfl ?_; refine Za rfl rfl rfl rfl rfl ?_; refine hx_nil ?_; rotate_left)
      · refine hq_ret1 (.inr rfl) rfl rfl ⟨congrArg (Value.int .i64) (hbad2 ?_), rfl⟩ (fun _ h => h.emp)
        have : b = 47 := UInt8.toNat_inj.1 (by rw [show (47 : UInt8).toNat = 47 from rfl]; omega)
        rw [this]
        rfl
      · refine hq_ret1 (.inr rfl) rfl rfl ⟨congrArg (Value.int .i64) (hbad2 ?_), rfl⟩ (fun _ h => h.emp)
        have : b = 0 := UInt8.toNat_inj.1 (by rw [show (0 : UInt8).toNat = 0 from rfl]; omega)
        rw [this]
        rfl
      · refine hq_round (i + 1) (by omega) ⟨by omega, ?_⟩ (.cons rfl (.cons rfl .nil)) (fun _ h => h)
        rw [take_succ1 hlt2, List.all_append, hz, hb]
        have h1 : b ≠ 47 := by
          rintro rfl
          simp_all
        have h2 : b ≠ 0 := by
          rintro rfl
          simp_all
        simp [Nm.fineB, h1, h2]
    · (refine hc_seq ?_; refine Zw rfl rfl rfl rfl rfl ?_; refine Zm rfl rfl rfl rfl rfl ?_; refine hx_plain rfl ?_; refine h_len_str rfl rfl UC.out rfl rfl rfl ?_; refine Zc rfl rfl rfl rfl rfl rfl rfl ?_; refine Zt ?_; refine hc_condDF rfl (by omega) ?_; refine hc_exit ?_; (iterate 2 (refine hq_exit_then ?_)))
      refine hq_cut () ?_ .nil (fun _ h => h)
      rwa [List.take_of_length_le (by omega)] at hz
  rintro ⟨⟩ he
  (refine hq_exit_block ?_; refine hq_then ?_; refine Zx rfl rfl rfl rfl rfl ?_; refine hc_ret ?_)
  exact hq_ret1 (.inr rfl) rfl rfl ⟨by rw [hck, if_pos he], rfl⟩ (fun _ h => h.emp)
theorem rname_spec (s : ByteArray) : Spec0 Tryz.prog 94 [.string s] (.bool (isNm s)) := by
  refine spec_of Tryz.func94 rfl rfl (Nat.le_of_ble_eq_true rfl) (fun w F => ?_)
  (refine Zx rfl rfl rfl rfl rfl ?_; refine Zw rfl rfl rfl rfl rfl ?_; refine hx_plain rfl ?_)
  refine h_callR rfl rfl rfl rfl rfl rfl EC.out ((rcheck_spec s).reads _) ?_
  (refine Zc rfl rfl rfl rfl rfl rfl rfl ?_; refine Zn rfl rfl rfl rfl rfl ?_; refine hc_ret ?_)
  exact hq_ret1 (.inr rfl) rfl rfl ⟨rfl, rfl⟩ (fun _ h => h.emp)
theorem rnum_spec (e : Int) : Spec0 Tryz.prog 64 [.int .i64 e] (.int .i64 e) := by
  refine spec_of Tryz.func64 rfl rfl (Nat.le_of_ble_eq_true rfl) (fun w F => ?_)
  (refine Zx rfl rfl rfl rfl rfl ?_; refine Zw rfl rfl rfl rfl rfl ?_; refine Zn rfl rfl rfl rfl rfl ?_; refine hc_ret ?_)
  exact hq_ret1 (.inr rfl) rfl rfl ⟨rfl, rfl⟩ (fun _ h => h.emp)
set_option maxHeartbeats 4000000 in
theorem rhead_spec (r : ReqV) : Spec0 Tryz.prog 48 [.agg r.cs] (.int .i64 r.head) := by
  refine spec_of Tryz.func48 rfl rfl (Nat.le_of_ble_eq_true rfl) (fun w F => ?_)
  obtain ⟨client, seq, ack, epoch, op, id, id2, off, len, path, name, name2, ⟨da, dn, dc⟩⟩ := r
  dsimp only [ReqV.cs, SlV.v]
  have ht : top = 4611686018427387904 := rfl
  (refine Zl rfl ?_; (refine h_box rfl rfl rfl rfl rfl rfl (fun _ => ?_)); refine Zn rfl rfl rfl rfl rfl ?_; refine hc_seq ?_; refine hc_block ?_; refine Zl rfl ?_; refine h_fieldAddr0 rfl rfl FC.out rfl rfl ?_; refine Zh rfl rfl rfl rfl rfl rfl rfl ?_; refine hx_plain rfl ?_)
  refine h_callR rfl rfl rfl rfl rfl rfl EC.out ((within_spec _ _ _).reads _) ?_
  by_cases c1 : 0 ≤ client ∧ client ≤ 7
  case neg =>
    rw [decide_eq_false c1]
    (refine hx_plain rfl ?_; refine h_not rfl rfl rfl rfl ?_; refine Zn rfl rfl rfl rfl rfl ?_; refine hc_condT rfl ?_; refine Zx rfl rfl rfl rfl rfl ?_; refine hc_ret ?_; refine hq_ret_block ?_; refine hq_ret_then ?_)
    refine hq_ret1 (.inr rfl) rfl rfl ⟨congrArg (Value.int .i64) ?_, rfl⟩ (fun _ h => h.emp)
    unfold ReqV.head
    dsimp only
    repeat' split
    all_goals first | rfl | (exfalso; omega) | contradiction
  rw [decide_eq_true c1]
  (refine hx_plain rfl ?_; refine h_not rfl rfl rfl rfl ?_; refine Zn rfl rfl rfl rfl rfl ?_; refine hc_condF rfl ?_; refine Zl rfl ?_; refine h_fieldAddr0 rfl rfl FC.out rfl rfl ?_; refine Zh rfl rfl rfl rfl rfl rfl rfl ?_; refine hx_plain rfl ?_)
  refine h_callR rfl rfl rfl rfl rfl rfl EC.out ((within_spec _ _ _).reads _) ?_
  by_cases c2 : 1 ≤ seq ∧ seq ≤ 4611686018427387904
  case neg =>
    rw [decide_eq_false c2]
    (refine hx_plain rfl ?_; refine h_not rfl rfl rfl rfl ?_; refine Zm rfl rfl rfl rfl rfl ?_; (iterate 7 (refine hx_skip rfl rfl rfl rfl rfl rfl ?_)); refine Zq rfl rfl rfl rfl rfl rfl ?_; refine Zn rfl rfl rfl rfl rfl ?_; refine hc_condT rfl ?_; refine Zx rfl rfl rfl rfl rfl ?_; refine hc_ret ?_; refine hq_ret_block ?_; refine hq_ret_then ?_)
    refine hq_ret1 (.inr rfl) rfl rfl ⟨congrArg (Value.int .i64) ?_, rfl⟩ (fun _ h => h.emp)
    unfold ReqV.head
    dsimp only
    repeat' split
    all_goals first | rfl | (exfalso; omega) | contradiction
  rw [decide_eq_true c2]
  (refine hx_plain rfl ?_; refine h_not rfl rfl rfl rfl ?_; refine Zm rfl rfl rfl rfl rfl ?_; (iterate 2 (refine hx_yes rfl rfl rfl ?_; refine h_fieldAddr0 rfl rfl FC.out rfl rfl ?_; refine hx_yes rfl rfl rfl ?_; refine h_load rfl rfl UC.out rfl .head rfl rfl rfl ?_)); refine hx_yes rfl rfl rfl ?_; refine h_arithI rfl rfl rfl rfl (by omega) rfl rfl ?_; refine hx_yes rfl rfl rfl ?_)
  refine h_callR rfl rfl rfl rfl rfl rfl EC.out ((within_spec _ _ _).reads _) ?_
  by_cases c3 : 0 ≤ ack ∧ ack ≤ seq - 1
  case neg =>
    rw [decide_eq_false c3]
    (refine hx_yes rfl rfl rfl ?_; refine h_not rfl rfl rfl rfl ?_; refine Zp rfl rfl rfl rfl rfl rfl ?_; refine Zn rfl rfl rfl rfl rfl ?_; refine hc_condT rfl ?_; refine Zx rfl rfl rfl rfl rfl ?_; refine hc_ret ?_; refine hq_ret_block ?_; refine hq_ret_then ?_)
    refine hq_ret1 (.inr rfl) rfl rfl ⟨congrArg (Value.int .i64) ?_, rfl⟩ (fun _ h => h.emp)
    unfold ReqV.head
    dsimp only
    repeat' split
    all_goals first | rfl | (exfalso; omega) | contradiction
  rw [decide_eq_true c3]
  (refine hx_yes rfl rfl rfl ?_; refine h_not rfl rfl rfl rfl ?_; refine Zp rfl rfl rfl rfl rfl rfl ?_; refine Zn rfl rfl rfl rfl rfl ?_; refine hc_condF rfl ?_; refine Zl rfl ?_; refine h_fieldAddr0 rfl rfl FC.out rfl rfl ?_; refine Zh rfl rfl rfl rfl rfl rfl rfl ?_; refine hx_plain rfl ?_)
  refine h_callR rfl rfl rfl rfl rfl rfl EC.out ((within_spec _ _ _).reads _) ?_
  by_cases c4 : 0 ≤ epoch ∧ epoch ≤ 4611686018427387904
  case neg =>
    rw [decide_eq_false c4]
    (refine hx_plain rfl ?_; refine h_not rfl rfl rfl rfl ?_; refine Zn rfl rfl rfl rfl rfl ?_; refine hc_condT rfl ?_; refine Zx rfl rfl rfl rfl rfl ?_; refine hc_ret ?_; refine hq_ret_block ?_; refine hq_ret_then ?_)
    refine hq_ret1 (.inr rfl) rfl rfl ⟨congrArg (Value.int .i64) ?_, rfl⟩ (fun _ h => h.emp)
    unfold ReqV.head
    dsimp only
    repeat' split
    all_goals first | rfl | (exfalso; omega) | contradiction
  rw [decide_eq_true c4]
  (refine hx_plain rfl ?_; refine h_not rfl rfl rfl rfl ?_; refine Zn rfl rfl rfl rfl rfl ?_; refine hc_condF rfl ?_; refine Zl rfl ?_; refine h_fieldAddr0 rfl rfl FC.out rfl rfl ?_; refine Zh rfl rfl rfl rfl rfl rfl rfl ?_; refine hx_plain rfl ?_)
  refine h_callR rfl rfl rfl rfl rfl rfl EC.out ((within_spec _ _ _).reads _) ?_
  by_cases c5 : 1 ≤ op ∧ op ≤ 10
  case neg =>
    rw [decide_eq_false c5]
    (refine hx_plain rfl ?_; refine h_not rfl rfl rfl rfl ?_; refine Zn rfl rfl rfl rfl rfl ?_; refine hc_condT rfl ?_; refine Zx rfl rfl rfl rfl rfl ?_; refine hc_ret ?_; refine hq_ret_block ?_; refine hq_ret_then ?_)
    refine hq_ret1 (.inr rfl) rfl rfl ⟨congrArg (Value.int .i64) ?_, rfl⟩ (fun _ h => h.emp)
    unfold ReqV.head
    dsimp only
    repeat' split
    all_goals first | rfl | (exfalso; omega) | contradiction
  rw [decide_eq_true c5]
  (refine hx_plain rfl ?_; refine h_not rfl rfl rfl rfl ?_; refine Zn rfl rfl rfl rfl rfl ?_; refine hc_condF rfl ?_; refine hc_skip ?_; refine hq_norm_block ?_; refine hq_then ?_; refine Zx rfl rfl rfl rfl rfl ?_; refine hc_ret ?_)
  refine hq_ret1 (.inr rfl) rfl rfl ⟨congrArg (Value.int .i64) ?_, rfl⟩ (fun _ h => h.emp)
  unfold ReqV.head
  dsimp only
  repeat' split
  all_goals first | rfl | (exfalso; omega) | contradiction
set_option maxHeartbeats 4000000 in
theorem ranswer_spec (r : RepV) : Spec0 Tryz.prog 53 [.agg r.cs] (.int .i64 r.head) := by
  refine spec_of Tryz.func53 rfl rfl (Nat.le_of_ble_eq_true rfl) (fun w F => ?_)
  obtain ⟨client, seq, epoch, op, status, aid, akind, asize, achange, ⟨ad, an, ac⟩, ⟨al, am, am2⟩, more⟩ := r
  dsimp only [RepV.cs, SlV.v]
  have ht : top = 4611686018427387904 := rfl
  obtain ⟨b, hb⟩ : ∃ b, isSt status = b := ⟨_, rfl⟩
  (refine Zl rfl ?_; (refine h_box rfl rfl rfl rfl rfl rfl (fun _ => ?_)); refine Zn rfl rfl rfl rfl rfl ?_; refine Zl rfl ?_; refine h_fieldAddr0 rfl rfl FC.out rfl rfl ?_; refine Zh rfl rfl rfl rfl rfl rfl rfl ?_; refine hx_plain rfl ?_)
  refine h_callR rfl rfl rfl rfl rfl rfl EC.out ((rnum_spec _).reads _) ?_
  (refine Zn rfl rfl rfl rfl rfl ?_; refine hc_seq ?_; refine hc_block ?_; refine Zl rfl ?_; refine h_fieldAddr0 rfl rfl FC.out rfl rfl ?_; refine Zh rfl rfl rfl rfl rfl rfl rfl ?_; refine hx_plain rfl ?_)
  refine h_callR rfl rfl rfl rfl rfl rfl EC.out ((within_spec _ _ _).reads _) ?_
  by_cases c1 : 0 ≤ client ∧ client ≤ 7
  case neg =>
    rw [decide_eq_false c1]
    (refine hx_plain rfl ?_; refine h_not rfl rfl rfl rfl ?_; refine Zn rfl rfl rfl rfl rfl ?_; refine hc_condT rfl ?_; refine Zx rfl rfl rfl rfl rfl ?_; refine hc_ret ?_; refine hq_ret_block ?_; refine hq_ret_then ?_)
    refine hq_ret1 (.inr rfl) rfl rfl ⟨congrArg (Value.int .i64) ?_, rfl⟩ (fun _ h => h.emp)
    unfold RepV.head
    dsimp only
    rw [hb]
    repeat' split
    all_goals first | rfl | (exfalso; omega) | contradiction
  rw [decide_eq_true c1]
  (refine hx_plain rfl ?_; refine h_not rfl rfl rfl rfl ?_; refine Zn rfl rfl rfl rfl rfl ?_; refine hc_condF rfl ?_; refine Zl rfl ?_; refine h_fieldAddr0 rfl rfl FC.out rfl rfl ?_; refine Zh rfl rfl rfl rfl rfl rfl rfl ?_; refine hx_plain rfl ?_)
  refine h_callR rfl rfl rfl rfl rfl rfl EC.out ((within_spec _ _ _).reads _) ?_
  by_cases c2 : 1 ≤ seq ∧ seq ≤ 4611686018427387904
  case neg =>
    rw [decide_eq_false c2]
    (refine hx_plain rfl ?_; refine h_not rfl rfl rfl rfl ?_; refine Zn rfl rfl rfl rfl rfl ?_; refine hc_condT rfl ?_; refine Zx rfl rfl rfl rfl rfl ?_; refine hc_ret ?_; refine hq_ret_block ?_; refine hq_ret_then ?_)
    refine hq_ret1 (.inr rfl) rfl rfl ⟨congrArg (Value.int .i64) ?_, rfl⟩ (fun _ h => h.emp)
    unfold RepV.head
    dsimp only
    rw [hb]
    repeat' split
    all_goals first | rfl | (exfalso; omega) | contradiction
  rw [decide_eq_true c2]
  (refine hx_plain rfl ?_; refine h_not rfl rfl rfl rfl ?_; refine Zn rfl rfl rfl rfl rfl ?_; refine hc_condF rfl ?_; refine Zl rfl ?_; refine h_fieldAddr0 rfl rfl FC.out rfl rfl ?_; refine Zh rfl rfl rfl rfl rfl rfl rfl ?_; refine hx_plain rfl ?_)
  refine h_callR rfl rfl rfl rfl rfl rfl EC.out ((within_spec _ _ _).reads _) ?_
  by_cases c3 : 1 ≤ epoch ∧ epoch ≤ 4611686018427387904
  case neg =>
    rw [decide_eq_false c3]
    (refine hx_plain rfl ?_; refine h_not rfl rfl rfl rfl ?_; refine Zn rfl rfl rfl rfl rfl ?_; refine hc_condT rfl ?_; refine Zx rfl rfl rfl rfl rfl ?_; refine hc_ret ?_; refine hq_ret_block ?_; refine hq_ret_then ?_)
    refine hq_ret1 (.inr rfl) rfl rfl ⟨congrArg (Value.int .i64) ?_, rfl⟩ (fun _ h => h.emp)
    unfold RepV.head
    dsimp only
    rw [hb]
    repeat' split
    all_goals first | rfl | (exfalso; omega) | contradiction
  rw [decide_eq_true c3]
  (refine hx_plain rfl ?_; refine h_not rfl rfl rfl rfl ?_; refine Zn rfl rfl rfl rfl rfl ?_; refine hc_condF rfl ?_; refine Zl rfl ?_; refine h_fieldAddr0 rfl rfl FC.out rfl rfl ?_; refine Zh rfl rfl rfl rfl rfl rfl rfl ?_; refine hx_plain rfl ?_)
  refine h_callR rfl rfl rfl rfl rfl rfl EC.out ((within_spec _ _ _).reads _) ?_
  by_cases c4 : 1 ≤ op ∧ op ≤ 10
  case neg =>
    rw [decide_eq_false c4]
    (refine hx_plain rfl ?_; refine h_not rfl rfl rfl rfl ?_; refine Zn rfl rfl rfl rfl rfl ?_; refine hc_condT rfl ?_; refine Zx rfl rfl rfl rfl rfl ?_; refine hc_ret ?_; refine hq_ret_block ?_; refine hq_ret_then ?_)
    refine hq_ret1 (.inr rfl) rfl rfl ⟨congrArg (Value.int .i64) ?_, rfl⟩ (fun _ h => h.emp)
    unfold RepV.head
    dsimp only
    rw [hb]
    repeat' split
    all_goals first | rfl | (exfalso; omega) | contradiction
  rw [decide_eq_true c4]
  (refine hx_plain rfl ?_; refine h_not rfl rfl rfl rfl ?_; refine Zn rfl rfl rfl rfl rfl ?_; refine hc_condF rfl ?_; refine Zw rfl rfl rfl rfl rfl ?_; refine hx_plain rfl ?_)
  refine h_callR rfl rfl rfl rfl rfl rfl EC.out ((status_spec _).reads _) ?_
  rw [hb]
  cases b
  ·
    (refine hx_plain rfl ?_; refine h_not rfl rfl rfl rfl ?_; refine Zn rfl rfl rfl rfl rfl ?_; refine hc_condT rfl ?_; refine Zx rfl rfl rfl rfl rfl ?_; refine hc_ret ?_; refine hq_ret_block ?_; refine hq_ret_then ?_)
    refine hq_ret1 (.inr rfl) rfl rfl ⟨congrArg (Value.int .i64) ?_, rfl⟩ (fun _ h => h.emp)
    unfold RepV.head
    dsimp only
    rw [hb]
    repeat' split
    all_goals first | rfl | (exfalso; omega) | contradiction
  ·
    (refine hx_plain rfl ?_; refine h_not rfl rfl rfl rfl ?_; refine Zn rfl rfl rfl rfl rfl ?_; refine hc_condF rfl ?_; refine hc_skip ?_; refine hq_norm_block ?_; refine hq_then ?_; refine Zx rfl rfl rfl rfl rfl ?_; refine hc_ret ?_)
    refine hq_ret1 (.inr rfl) rfl rfl ⟨congrArg (Value.int .i64) ?_, rfl⟩ (fun _ h => h.emp)
    unfold RepV.head
    dsimp only
    rw [hb]
    repeat' split
    all_goals first | rfl | (exfalso; omega) | contradiction
end Go.Proofs.YtfolhmlldoepfaaGreatDoor
namespace Go.Proofs.YtfolhmlldoepfaaGreatDoor
open Go Go.Proofs Go.RowKit
set_option maxRecDepth 4000
theorem bl_irr : ∀ a : List UInt8, Op.bytesLess a a = false
  | [] => rfl
  | c :: a => by simp [Op.bytesLess, bl_irr a]
theorem bl_tr : ∀ a b c : List UInt8, Op.bytesLess a b = true → Op.bytesLess b c = true → Op.bytesLess a c = true
  | _, [], _, h, _ => by cases ‹List UInt8› <;> simp [Op.bytesLess] at h
  | _, _ :: _, [], _, h => by simp [Op.bytesLess] at h
  | [], _ :: _, _ :: _, _, _ => rfl
  | x :: a, y :: b, z :: c, h1, h2 => by
    simp only [Op.bytesLess, Bool.or_eq_true, Bool.and_eq_true, decide_eq_true_eq, beq_iff_eq] at h1 h2 ⊢
    rcases h1 with h1 | ⟨h1, h3⟩
    · rcases h2 with h2 | ⟨h2, h4⟩
      · exact .inl (UInt8.lt_trans h1 h2)
      · subst h2; exact .inl h1
    · subst h1
      rcases h2 with h2 | ⟨h2, h4⟩
      · exact .inl h2
      · exact .inr ⟨h2, bl_tr a b c h3 h4⟩
theorem bl_tot : ∀ a b : List UInt8, a ≠ b → Op.bytesLess a b = true ∨ Op.bytesLess b a = true
  | [], [], h => absurd rfl h
  | [], _ :: _, _ => .inl rfl
  | _ :: _, [], _ => .inr rfl
  | x :: a, y :: b, h => by
    simp only [Op.bytesLess, Bool.or_eq_true, Bool.and_eq_true, decide_eq_true_eq, beq_iff_eq]
    by_cases e : x = y
    · subst e
      rcases bl_tot a b (fun e => h (by rw [e])) with h1 | h1
      · exact .inl (.inr ⟨rfl, h1⟩)
      · exact .inr (.inr ⟨rfl, h1⟩)
    · rcases UInt8.lt_or_lt_of_ne e with h1 | h1
      · exact .inl (.inl h1)
      · exact .inr (.inl h1)
theorem bl_pre : ∀ p a b : List UInt8, Op.bytesLess (p ++ a) (p ++ b) = Op.bytesLess a b
  | [], _, _ => rfl
  | c :: p, a, b => by
    show Op.bytesLess (c :: (p ++ a)) (c :: (p ++ b)) = _
    simp [Op.bytesLess, bl_pre p a b]
/-- Is the text above that one? -/
def aboveS (a b : ByteArray) : Bool := Op.bytesLess b.data.toList a.data.toList
theorem aboveS_le (a b : ByteArray) : aboveS a b = !leS a b := by
  unfold aboveS leS
  rw [ByteArray.toList_eq, ByteArray.toList_eq]
  by_cases e : a.data.toList = b.data.toList
  · rw [e, bl_irr, beq_self_eq_true]; rfl
  · rw [beq_eq_false_iff_ne.2 e, Bool.or_false]
    cases h : Op.bytesLess a.data.toList b.data.toList with
    | true =>
      cases h2 : Op.bytesLess b.data.toList a.data.toList with
      | false => rfl
      | true =>
        have := bl_tr _ _ _ h h2
        rw [bl_irr] at this
        cases this
    | false =>
      rcases bl_tot _ _ e with h2 | h2
      · rw [h] at h2; cases h2
      · rw [h2]; rfl
set_option maxHeartbeats 2000000 in
theorem above_spec (a b : ByteArray) (hsa : a.size ≤ 1000) : Spec0 Tryz.prog 129 [.string a, .string b] (.bool (aboveS a b)) := by
  refine spec_of Tryz.func129 rfl rfl (Nat.le_of_ble_eq_true rfl) (fun w F => ?_)
  have ha : a.data.toList.length = a.size := Array.length_toList
  have hb : b.data.toList.length = b.size := Array.length_toList
  obtain ⟨la, hla⟩ : ∃ l, a.data.toList = l := ⟨_, rfl⟩
  obtain ⟨lb, hlb⟩ : ∃ l, b.data.toList = l := ⟨_, rfl⟩
  rw [hla] at ha
  rw [hlb] at hb
  have hres : aboveS a b = Op.bytesLess lb la := by unfold aboveS; rw [hla, hlb]
  (refine Zx rfl rfl rfl rfl rfl ?_; refine hc_seq ?_; refine Zx rfl rfl rfl rfl rfl ?_; refine hc_block ?_)
  refine hc_cut (id := 0) (Y := Unit) (fun _ => [(0, .string a), (1, .string b)]) (fun _ => []) (fun _ => Op.bytesLess lb la = decide (b.size < a.size)) ?_ ?_
  · refine hc_loop (X := Nat) (fun i => [(0, .string a), (1, .string b), (5, .int .i64 (i : Int))]) (fun _ => []) (fun i => i ≤ a.size ∧ i ≤ b.size ∧ la.take i = lb.take i) (fun i => a.size - i) 0 (.cons rfl (.cons rfl (.cons rfl .nil))) ⟨Nat.zero_le _, Nat.zero_le _, rfl⟩ (fun _ h => h.emp) ?_
    rintro i ⟨hi, hi2, hz⟩
    have hsp : Op.bytesLess lb la = Op.bytesLess (lb.drop i) (la.drop i) := by
      conv => lhs; rw [← List.take_append_drop i lb, ← List.take_append_drop i la, hz]
      exact bl_pre _ _ _
    by_cases hlt : i < a.size
    · by_cases hlt2 : i < b.size
      · obtain ⟨x, hx⟩ : ∃ x, la[i]'(by omega) = x := ⟨_, rfl⟩
        obtain ⟨y, hy⟩ : ∃ y, lb[i]'(by omega) = y := ⟨_, rfl⟩
        have e1 : a.data[((i : Nat) : Int).toNat]? = some x := by
          rw [← Array.getElem?_toList, hla]
          show la[i]? = _
          rw [List.getElem?_eq_getElem (by omega), hx]
        have e2 : b.data[((i : Nat) : Int).toNat]? = some y := by
          rw [← Array.getElem?_toList, hlb]
          show lb[i]? = _
          rw [List.getElem?_eq_getElem (by omega), hy]
        have hda : la.drop i = x :: la.drop (i + 1) := by rw [List.drop_eq_getElem_cons (by omega), hx]
        have hdb : lb.drop i = y :: lb.drop (i + 1) := by rw [List.drop_eq_getElem_cons (by omega), hy]
        rw [hda, hdb] at hsp
        (refine hc_seq ?_; refine Zw rfl rfl rfl rfl rfl ?_; refine Zm rfl rfl rfl rfl rfl ?_; refine hx_plain rfl ?_; refine h_len_str rfl rfl UC.out rfl rfl rfl ?_; refine Zc rfl rfl rfl rfl rfl rfl rfl ?_; refine Zm rfl rfl rfl rfl rfl ?_; refine hx_gT rfl rfl rfl (by omega) ?_; (iterate 2 (refine hx_yes rfl rfl rfl ?_; refine h_move rfl rfl rfl rfl ?_)); refine hx_yes rfl rfl rfl ?_; refine h_len_str rfl rfl UC.out rfl rfl rfl ?_; refine hx_yes rfl rfl rfl ?_; refine h_cmp rfl rfl rfl rfl rfl rfl ?_; refine Zq rfl rfl rfl rfl rfl rfl ?_; refine Zt ?_; refine hc_condDT rfl (by omega) ?_; refine hc_skip ?_; refine hq_then ?_; refine hc_seq ?_; refine hc_block ?_; refine hc_seq ?_; refine hc_draw0 (by kernel_rfl) (by kernel_rfl) ?_; (iterate 2 ((iterate 2 (refine Zm rfl rfl rfl rfl rfl ?_)); refine hx_plain rfl ?_; refine h_indexS rfl rfl rfl UC.out (by omega) (by with_reducible assumption) rfl rfl ?_)); refine Zc rfl rfl rfl rfl rfl rfl rfl ?_; refine Zt ?_; refine hc_condD rfl (fun hc => ?_) (fun hc => ?_); refine hc_seq ?_; refine hc_draw0 (by kernel_rfl) (by kernel_rfl) ?_; (iterate 2 ((iterate 2 (refine Zm rfl rfl rfl rfl rfl ?_)); refine hx_plain rfl ?_; refine h_indexS rfl rfl rfl UC.out (by omega) (by with_reducible assumption) rfl rfl ?_)); refine Zc rfl rfl rfl rfl rfl rfl rfl ?_; refine Zn rfl rfl rfl rfl rfl ?_; refine hc_ret ?_; refine hq_ret_block ?_; (iterate 2 (refine hq_ret_then ?_)); refine hq_cut_ret ?_; refine hq_ret_block ?_; refine hq_ret_then ?_; rotate_left; refine hc_skip ?_; refine hq_norm_block ?_; refine hq_then ?_; refine hc_lex ?_; refine Zm rfl rfl rfl rfl rfl ?_; refine hx_plain rfl ?_; refine h_arithI rfl rfl rfl rfl (by omega) rfl rfl ?_; refine Za rfl rfl rfl rfl rfl ?_; refine hx_nil ?_; rotate_left)
        · refine hq_ret1 (.inr rfl) rfl rfl ⟨congrArg Value.bool ?_, rfl⟩ (fun _ h => h.emp)
          rw [hres, hsp]
          have hne : ¬ y = x := fun e => hc (by rw [e])
          simp only [Op.bytesLess]
          rw [beq_eq_false_iff_ne.2 hne, Bool.false_and, Bool.or_false, decide_eq_decide, UInt8.lt_iff_toNat_lt]
          omega
        · refine hq_round (i + 1) (by omega) ⟨by omega, by omega, ?_⟩ (.cons rfl (.cons rfl (.cons rfl .nil))) (fun _ h => h)
          have hxy : x = y := UInt8.toNat_inj.1 (by omega)
          rw [take_succ1 (by omega), take_succ1 (by omega), hz, hx, hy, hxy]
      · (refine hc_seq ?_; refine Zw rfl rfl rfl rfl rfl ?_; refine Zm rfl rfl rfl rfl rfl ?_; refine hx_plain rfl ?_; refine h_len_str rfl rfl UC.out rfl rfl rfl ?_; refine Zc rfl rfl rfl rfl rfl rfl rfl ?_; refine Zm rfl rfl rfl rfl rfl ?_; refine hx_gT rfl rfl rfl (by omega) ?_; (iterate 2 (refine hx_yes rfl rfl rfl ?_; refine h_move rfl rfl rfl rfl ?_)); refine hx_yes rfl rfl rfl ?_; refine h_len_str rfl rfl UC.out rfl rfl rfl ?_; refine hx_yes rfl rfl rfl ?_; refine h_cmp rfl rfl rfl rfl rfl rfl ?_; refine Zq rfl rfl rfl rfl rfl rfl ?_; refine Zt ?_; refine hc_condDF rfl (by omega) ?_; refine hc_exit ?_; (iterate 2 (refine hq_exit_then ?_)))
        refine hq_cut () ?_ (.cons rfl (.cons rfl .nil)) (fun _ h => h)
        rw [hsp, show lb.drop i = [] from List.drop_eq_nil_of_le (by omega), decide_eq_true (by omega)]
        cases hdd : la.drop i with
        | nil =>
          have := congrArg List.length hdd
          rw [List.length_drop, List.length_nil] at this
          omega
        | cons c l => rfl
    · (refine hc_seq ?_; refine Zw rfl rfl rfl rfl rfl ?_; refine Zm rfl rfl rfl rfl rfl ?_; refine hx_plain rfl ?_; refine h_len_str rfl rfl UC.out rfl rfl rfl ?_; refine Zc rfl rfl rfl rfl rfl rfl rfl ?_; refine Zm rfl rfl rfl rfl rfl ?_; refine hx_gF rfl rfl rfl (by omega) ?_; (iterate 4 (refine hx_skip rfl rfl rfl rfl rfl rfl ?_)); refine Zp rfl rfl rfl rfl rfl rfl ?_; refine Zt ?_; refine hc_condF rfl ?_; refine hc_exit ?_; (iterate 2 (refine hq_exit_then ?_)))
      refine hq_cut () ?_ (.cons rfl (.cons rfl .nil)) (fun _ h => h)
      rw [hsp, show la.drop i = [] from List.drop_eq_nil_of_le (by omega), decide_eq_false (by omega)]
      cases lb.drop i <;> rfl
  rintro ⟨⟩ he
  (refine hq_exit_block ?_; refine hq_then ?_; refine Zw rfl rfl rfl rfl rfl ?_; refine hx_plain rfl ?_; refine h_len_str rfl rfl UC.out rfl rfl rfl ?_; refine Zm rfl rfl rfl rfl rfl ?_; refine hx_plain rfl ?_; refine h_len_str rfl rfl UC.out rfl rfl rfl ?_; refine Zc rfl rfl rfl rfl rfl rfl rfl ?_; refine Zn rfl rfl rfl rfl rfl ?_; refine hc_ret ?_)
  exact hq_ret1 (.inr rfl) rfl rfl ⟨congrArg Value.bool (by rw [hres, he, decide_eq_decide]; omega), rfl⟩ (fun _ h => h.emp)
set_option maxHeartbeats 8000000 in
theorem rattr_spec (op id kind size change : Int) : Spec0 Tryz.prog 97 [.int .i64 op, .agg #[.int .i64 id, .int .i64 kind, .int .i64 size, .int .i64 change]] (.bool (attrB op id kind size change)) := by
  refine spec_of Tryz.func97 rfl rfl (Nat.le_of_ble_eq_true rfl) (fun w F => ?_)
  have ht : top = 4611686018427387904 := rfl
  (refine Zl rfl ?_; (refine h_box rfl rfl rfl rfl rfl rfl (fun _ => ?_)); refine Zn rfl rfl rfl rfl rfl ?_; refine hc_seq ?_; refine Zl rfl ?_; refine h_fieldAddr0 rfl rfl FC.out rfl rfl ?_; refine Zh rfl rfl rfl rfl rfl rfl rfl ?_; refine hx_plain rfl ?_)
  refine h_callR rfl rfl rfl rfl rfl rfl EC.out ((within_spec _ _ _).reads _) ?_
  by_cases c1 : 1 ≤ id ∧ id ≤ 562949953421311
  case neg =>
    rw [decide_eq_false c1]
    (refine hx_plain rfl ?_; refine h_not rfl rfl rfl rfl ?_; (iterate 2 (refine Zm rfl rfl rfl rfl rfl ?_; (iterate 4 (refine hx_skip rfl rfl rfl rfl rfl rfl ?_)); refine Zq rfl rfl rfl rfl rfl rfl ?_)); refine Zt ?_; refine hc_condT rfl ?_; refine Zx rfl rfl rfl rfl rfl ?_; refine hc_ret ?_; refine hq_ret_then ?_)
    exact hq_ret1 (.inr rfl) rfl rfl ⟨congrArg Value.bool (by unfold attrB; rw [eq_comm, decide_eq_false_iff_not]; omega), rfl⟩ (fun _ h => h.emp)
  rw [decide_eq_true c1]
  (refine hx_plain rfl ?_; refine h_not rfl rfl rfl rfl ?_; refine Zm rfl rfl rfl rfl rfl ?_; refine hx_yes rfl rfl rfl ?_; refine h_fieldAddr0 rfl rfl FC.out rfl rfl ?_; refine hx_yes rfl rfl rfl ?_; refine h_load rfl rfl UC.out rfl .head rfl rfl rfl ?_; refine hx_yes rfl rfl rfl ?_)
  refine h_callR rfl rfl rfl rfl rfl rfl EC.out ((within_spec _ _ _).reads _) ?_
  by_cases c2 : 1 ≤ kind ∧ kind ≤ 2
  case neg =>
    rw [decide_eq_false c2]
    (refine hx_yes rfl rfl rfl ?_; refine h_not rfl rfl rfl rfl ?_; refine Zp rfl rfl rfl rfl rfl rfl ?_; refine Zm rfl rfl rfl rfl rfl ?_; (iterate 4 (refine hx_skip rfl rfl rfl rfl rfl rfl ?_)); refine Zq rfl rfl rfl rfl rfl rfl ?_; refine Zt ?_; refine hc_condT rfl ?_; refine Zx rfl rfl rfl rfl rfl ?_; refine hc_ret ?_; refine hq_ret_then ?_)
    exact hq_ret1 (.inr rfl) rfl rfl ⟨congrArg Value.bool (by unfold attrB; rw [eq_comm, decide_eq_false_iff_not]; omega), rfl⟩ (fun _ h => h.emp)
  rw [decide_eq_true c2]
  (refine hx_yes rfl rfl rfl ?_; refine h_not rfl rfl rfl rfl ?_; refine Zp rfl rfl rfl rfl rfl rfl ?_; refine Zm rfl rfl rfl rfl rfl ?_; refine hx_yes rfl rfl rfl ?_; refine h_fieldAddr0 rfl rfl FC.out rfl rfl ?_; refine hx_yes rfl rfl rfl ?_; refine h_load rfl rfl UC.out rfl .head rfl rfl rfl ?_; refine hx_yes rfl rfl rfl ?_)
  refine h_callR rfl rfl rfl rfl rfl rfl EC.out ((within_spec _ _ _).reads _) ?_
  by_cases c3 : 0 ≤ change ∧ change ≤ 4611686018427387904
  case neg =>
    rw [decide_eq_false c3]
    (refine hx_yes rfl rfl rfl ?_; refine h_not rfl rfl rfl rfl ?_; refine Zp rfl rfl rfl rfl rfl rfl ?_; refine Zt ?_; refine hc_condT rfl ?_; refine Zx rfl rfl rfl rfl rfl ?_; refine hc_ret ?_; refine hq_ret_then ?_)
    exact hq_ret1 (.inr rfl) rfl rfl ⟨congrArg Value.bool (by unfold attrB; rw [eq_comm, decide_eq_false_iff_not]; omega), rfl⟩ (fun _ h => h.emp)
  rw [decide_eq_true c3]
  (refine hx_yes rfl rfl rfl ?_; refine h_not rfl rfl rfl rfl ?_; refine Zp rfl rfl rfl rfl rfl rfl ?_; refine Zt ?_; refine hc_condF rfl ?_; refine hc_skip ?_; refine hq_then ?_; refine hc_seq ?_; refine Zw rfl rfl rfl rfl rfl ?_; refine Zc rfl rfl rfl rfl rfl rfl rfl ?_; refine Zm rfl rfl rfl rfl rfl ?_; refine hx_gcaseD rfl rfl rfl (fun hc => ?_) (fun hc => ?_); (iterate 2 ((iterate 2 (refine hx_skip rfl rfl rfl rfl rfl rfl ?_)); refine Zq rfl rfl rfl rfl rfl rfl ?_; refine Zm rfl rfl rfl rfl rfl ?_)); refine hx_yes rfl rfl rfl ?_; refine h_fieldAddr0 rfl rfl FC.out rfl rfl ?_; refine hx_yes rfl rfl rfl ?_; refine h_load rfl rfl UC.out rfl .head rfl rfl rfl ?_; refine hx_yes rfl rfl rfl ?_; refine h_cmp rfl rfl rfl rfl rfl rfl ?_; refine Zq rfl rfl rfl rfl rfl rfl ?_; refine Zt ?_; refine hc_condD rfl (fun hc => ?_) (fun hc => ?_); refine Zx rfl rfl rfl rfl rfl ?_; refine hc_ret ?_; refine hq_ret_then ?_; rotate_left; refine hc_skip ?_; refine hq_then ?_; refine hc_seq ?_; refine Zw rfl rfl rfl rfl rfl ?_; refine Zc rfl rfl rfl rfl rfl rfl rfl ?_; refine Zm rfl rfl rfl rfl rfl ?_; refine hx_gF rfl rfl rfl (by omega) ?_; (iterate 3 (refine hx_skip rfl rfl rfl rfl rfl rfl ?_)); refine Zp rfl rfl rfl rfl rfl rfl ?_; refine Zt ?_; refine hc_condF rfl ?_; refine hc_skip ?_; refine hq_then ?_; refine hc_seq ?_; refine Zl rfl ?_; refine h_fieldAddr0 rfl rfl FC.out rfl rfl ?_; refine Zh rfl rfl rfl rfl rfl rfl rfl ?_; refine Zc rfl rfl rfl rfl rfl rfl rfl ?_; refine Zt ?_; refine hc_condDT rfl (by omega) ?_; refine Zl rfl ?_; refine h_fieldAddr0 rfl rfl FC.out rfl rfl ?_; refine Zh rfl rfl rfl rfl rfl rfl rfl ?_; refine hx_plain rfl ?_; rotate_left; refine hx_yes rfl rfl rfl ?_; refine h_move rfl rfl rfl rfl ?_; refine hx_yes rfl rfl rfl ?_; refine h_cmp rfl rfl rfl rfl rfl rfl ?_; refine Zp rfl rfl rfl rfl rfl rfl ?_; refine Zm rfl rfl rfl rfl rfl ?_; refine hx_gcaseD rfl rfl rfl (fun hc => ?_) (fun hc => ?_); (iterate 2 (refine hx_skip rfl rfl rfl rfl rfl rfl ?_)); refine Zq rfl rfl rfl rfl rfl rfl ?_; refine Zm rfl rfl rfl rfl rfl ?_; refine hx_yes rfl rfl rfl ?_; refine h_fieldAddr0 rfl rfl FC.out rfl rfl ?_; refine hx_yes rfl rfl rfl ?_; refine h_load rfl rfl UC.out rfl .head rfl rfl rfl ?_; refine hx_yes rfl rfl rfl ?_; refine h_cmp rfl rfl rfl rfl rfl rfl ?_; refine Zq rfl rfl rfl rfl rfl rfl ?_; refine Zt ?_; refine hc_condD rfl (fun hc => ?_) (fun hc => ?_); refine Zx rfl rfl rfl rfl rfl ?_; refine hc_ret ?_; refine hq_ret_then ?_; rotate_left; refine hc_skip ?_; refine hq_then ?_; refine hc_seq ?_; refine Zw rfl rfl rfl rfl rfl ?_; refine Zc rfl rfl rfl rfl rfl rfl rfl ?_; refine Zm rfl rfl rfl rfl rfl ?_; refine hx_gF rfl rfl rfl (by omega) ?_; (iterate 3 (refine hx_skip rfl rfl rfl rfl rfl rfl ?_)); refine Zp rfl rfl rfl rfl rfl rfl ?_; refine Zt ?_; refine hc_condF rfl ?_; refine hc_skip ?_; refine hq_then ?_; refine hc_seq ?_; refine Zl rfl ?_; refine h_fieldAddr0 rfl rfl FC.out rfl rfl ?_; refine Zh rfl rfl rfl rfl rfl rfl rfl ?_; refine Zc rfl rfl rfl rfl rfl rfl rfl ?_; refine Zt ?_; refine hc_condDT rfl (by omega) ?_; refine Zl rfl ?_; refine h_fieldAddr0 rfl rfl FC.out rfl rfl ?_; refine Zh rfl rfl rfl rfl rfl rfl rfl ?_; refine hx_plain rfl ?_; rotate_left; refine hx_yes rfl rfl rfl ?_; refine h_move rfl rfl rfl rfl ?_; refine hx_yes rfl rfl rfl ?_; refine h_cmp rfl rfl rfl rfl rfl rfl ?_; refine Zp rfl rfl rfl rfl rfl rfl ?_; refine Zm rfl rfl rfl rfl rfl ?_; refine hx_gcaseD rfl rfl rfl (fun hc => ?_) (fun hc => ?_); refine hx_yes rfl rfl rfl ?_; refine h_fieldAddr0 rfl rfl FC.out rfl rfl ?_; refine hx_yes rfl rfl rfl ?_; refine h_load rfl rfl UC.out rfl .head rfl rfl rfl ?_; refine hx_yes rfl rfl rfl ?_; refine h_cmp rfl rfl rfl rfl rfl rfl ?_; refine Zq rfl rfl rfl rfl rfl rfl ?_; refine Zt ?_; refine hc_condD rfl (fun hc => ?_) (fun hc => ?_); refine Zx rfl rfl rfl rfl rfl ?_; refine hc_ret ?_; refine hq_ret_then ?_; rotate_left; refine hc_skip ?_; refine hq_then ?_; refine hc_seq ?_; refine Zw rfl rfl rfl rfl rfl ?_; refine Zc rfl rfl rfl rfl rfl rfl rfl ?_; refine Zm rfl rfl rfl rfl rfl ?_; refine hx_gF rfl rfl rfl (by omega) ?_; (iterate 3 (refine hx_skip rfl rfl rfl rfl rfl rfl ?_)); refine Zp rfl rfl rfl rfl rfl rfl ?_; refine Zt ?_; refine hc_condF rfl ?_; refine hc_skip ?_; refine hq_then ?_; refine hc_seq ?_; refine Zl rfl ?_; refine h_fieldAddr0 rfl rfl FC.out rfl rfl ?_; refine Zh rfl rfl rfl rfl rfl rfl rfl ?_; refine Zc rfl rfl rfl rfl rfl rfl rfl ?_; refine Zt ?_; refine hc_condDT rfl (by omega) ?_; refine Zl rfl ?_; refine h_fieldAddr0 rfl rfl FC.out rfl rfl ?_; refine Zh rfl rfl rfl rfl rfl rfl rfl ?_; refine hx_plain rfl ?_; rotate_left; (iterate 3 (refine hx_skip rfl rfl rfl rfl rfl rfl ?_)); refine Zp rfl rfl rfl rfl rfl rfl ?_; refine Zt ?_; refine hc_condF rfl ?_; refine hc_skip ?_; refine hq_then ?_; refine hc_seq ?_; refine Zw rfl rfl rfl rfl rfl ?_; refine Zc rfl rfl rfl rfl rfl rfl rfl ?_; refine Zm rfl rfl rfl rfl rfl ?_; refine hx_gcaseD rfl rfl rfl (fun hc => ?_) (fun hc => ?_); refine hx_yes rfl rfl rfl ?_; refine h_fieldAddr0 rfl rfl FC.out rfl rfl ?_; refine hx_yes rfl rfl rfl ?_; refine h_load rfl rfl UC.out rfl .head rfl rfl rfl ?_; refine hx_yes rfl rfl rfl ?_; refine h_cmp rfl rfl rfl rfl rfl rfl ?_; refine Zq rfl rfl rfl rfl rfl rfl ?_; refine Zt ?_; refine hc_condD rfl (fun hc => ?_) (fun hc => ?_); refine Zx rfl rfl rfl rfl rfl ?_; refine hc_ret ?_; refine hq_ret_then ?_; rotate_left; refine hc_skip ?_; refine hq_then ?_; refine hc_seq ?_; refine Zl rfl ?_; refine h_fieldAddr0 rfl rfl FC.out rfl rfl ?_; refine Zh rfl rfl rfl rfl rfl rfl rfl ?_; refine Zc rfl rfl rfl rfl rfl rfl rfl ?_; refine Zt ?_; refine hc_condDF rfl (by omega) ?_; refine hc_skip ?_; refine hq_then ?_; refine Zl rfl ?_; refine h_fieldAddr0 rfl rfl FC.out rfl rfl ?_; refine Zh rfl rfl rfl rfl rfl rfl rfl ?_; refine hx_plain rfl ?_; rotate_left; (iterate 3 (refine hx_skip rfl rfl rfl rfl rfl rfl ?_)); refine Zp rfl rfl rfl rfl rfl rfl ?_; refine Zt ?_; refine hc_condF rfl ?_; refine hc_skip ?_; refine hq_then ?_; refine hc_seq ?_; refine Zl rfl ?_; refine h_fieldAddr0 rfl rfl FC.out rfl rfl ?_; refine Zh rfl rfl rfl rfl rfl rfl rfl ?_; refine Zc rfl rfl rfl rfl rfl rfl rfl ?_; refine Zt ?_; refine hc_condD rfl (fun hc => ?_) (fun hc => ?_); refine Zl rfl ?_; refine h_fieldAddr0 rfl rfl FC.out rfl rfl ?_; refine Zh rfl rfl rfl rfl rfl rfl rfl ?_; refine hx_plain rfl ?_; rotate_left; refine hc_skip ?_; refine hq_then ?_; refine Zl rfl ?_; refine h_fieldAddr0 rfl rfl FC.out rfl rfl ?_; refine Zh rfl rfl rfl rfl rfl rfl rfl ?_; refine hx_plain rfl ?_; rotate_left)
  all_goals first
    | (refine hq_ret1 (.inr rfl) rfl rfl ⟨congrArg Value.bool ?_, rfl⟩ (fun _ h => h.emp); unfold attrB; first | (rw [eq_comm, decide_eq_false_iff_not]; omega) | (rw [decide_eq_decide]; omega))
    | (refine h_callR rfl rfl rfl rfl rfl rfl EC.out ((within_spec _ _ _).reads _) ?_
       (repeat' (first | ((with_reducible refine mHX ?_); (first | refine hx_plain rfl ?_ | refine hx_nil ?_ | refine hx_yes rfl rfl rfl ?_ | refine hx_skip rfl rfl rfl rfl rfl rfl ?_ | refine hx_skipU rfl rfl rfl rfl rfl ?_ | refine hx_gT rfl rfl rfl (by omega) ?_ | refine hx_gF rfl rfl rfl (by omega) ?_ | refine hx_gcaseD rfl rfl rfl (fun hc => ?_) (fun hc => ?_) | refine hx_gcase rfl rfl rfl (fun hc => ?_) (fun hc => ?_))) | ((with_reducible refine mHX1 ?_); (first | refine h_move rfl rfl rfl rfl ?_ | refine h_assign rfl rfl rfl rfl ?_ | refine h_fieldAddr0 rfl rfl FC.out rfl rfl ?_ | refine h_fieldAddr rfl rfl FC.out rfl rfl ?_ | refine h_nilCheck rfl rfl rfl rfl ?_ | (refine kLoad rfl ?_; (first | refine h_load rfl rfl UC.out rfl .head rfl rfl rfl ?_ | refine h_load rfl rfl UC.out rfl (.tail .head) rfl rfl rfl ?_ | refine h_load rfl rfl UC.out rfl (.tail (.tail .head)) rfl rfl rfl ?_ | refine h_load rfl rfl UC.out rfl (.tail (.tail (.tail .head))) rfl rfl rfl ?_ | refine h_load2 rfl rfl UC.out rfl IC.size .head rfl rfl rfl rfl ?_ | refine h_load2 rfl rfl UC.out rfl IC.size (.tail .head) rfl rfl rfl rfl ?_ | refine h_load2 rfl rfl UC.out rfl IC.size (.tail (.tail .head)) rfl rfl rfl rfl ?_ | refine h_load2 rfl rfl UC.out rfl IC.size (.tail (.tail (.tail .head))) rfl rfl rfl rfl ?_ | refine h_rdLoad rfl r1 rfl UC.out rfl (by with_reducible assumption) rfl rfl rfl ?_ | refine h_rdLoad1 rfl r1 rfl UC.out rfl (by with_reducible assumption) rfl rfl rfl ?_ | refine h_rdLoadN rfl r1 rfl UC.out rfl IC.size (by with_reducible assumption) rfl rfl rfl ?_ | refine h_rowLoad1 rfl .head rfl UC.out rfl (by with_reducible assumption) rfl rfl rfl ?_ | refine h_rowLoad1 rfl (.tail .head) rfl UC.out rfl (by with_reducible assumption) rfl rfl rfl ?_ | refine h_rowLoad1 rfl (.tail (.tail .head)) rfl UC.out rfl (by with_reducible assumption) rfl rfl rfl ?_ | refine h_rowLoad1 rfl (.tail (.tail (.tail .head))) rfl UC.out rfl (by with_reducible assumption) rfl rfl rfl ?_)) | (refine kBin rfl ?_; (first | refine h_cmp rfl rfl rfl rfl rfl rfl ?_ | refine h_cmpS rfl rfl rfl rfl rfl rfl ?_ | refine h_cmpB rfl rfl rfl UC.out rfl rfl rfl ?_ | refine h_arithI rfl rfl rfl rfl (by omega) rfl rfl ?_ | refine h_quoI rfl rfl rfl (by omega) rfl rfl ?_ | refine h_remI rfl rfl rfl (by omega) rfl rfl ?_)) | (refine kStore rfl ?_; (first | refine h_store rfl rfl rfl rfl rfl rfl IC.size .head rfl rfl (Nat.le_of_ble_eq_true rfl) (List.all_eq_true.1 rfl) ?_ | refine h_store rfl rfl rfl rfl rfl rfl IC.size (.tail .head) rfl rfl (Nat.le_of_ble_eq_true rfl) (List.all_eq_true.1 rfl) ?_ | refine h_store rfl rfl rfl rfl rfl rfl IC.size (.tail (.tail .head)) rfl rfl (Nat.le_of_ble_eq_true rfl) (List.all_eq_true.1 rfl) ?_ | refine h_store rfl rfl rfl rfl rfl rfl IC.size (.tail (.tail (.tail .head))) rfl rfl (Nat.le_of_ble_eq_true rfl) (List.all_eq_true.1 rfl) ?_)) | refine h_pickT rfl rfl rfl rfl rfl ?_ | refine h_pickF rfl rfl rfl rfl rfl ?_ | refine h_not rfl rfl rfl rfl ?_ | refine h_extract rfl rfl rfl rfl rfl ?_ | refine h_len_slice rfl rfl rfl UC.out rfl rfl rfl ?_ | refine h_len_str rfl rfl UC.out rfl rfl rfl ?_ | refine h_field1 rfl rfl FC.out UC.out rfl rfl rfl rfl ?_ | refine h_fieldN rfl rfl FC.out UC.out rfl IC.size rfl rfl ?_ | refine h_rowAddr rfl rfl rfl UC.out IC.size (by omega) (by omega) rfl rfl ?_ | refine h_indexAddr rfl rfl rfl UC.out IC.size (by omega) (by omega) rfl rfl ?_ | refine h_indexS rfl rfl rfl UC.out (by omega) (by with_reducible assumption) rfl rfl ?_ | (refine h_box rfl rfl rfl rfl rfl rfl (fun _ => ?_)) | (refine h_alloc rfl rfl IC.zero rfl rfl rfl (fun _ => ?_)))) | ((with_reducible refine mHC ?_); (first | refine hc_seq ?_ | refine hc_lex ?_ | refine hc_draw0 (by kernel_rfl) (by kernel_rfl) ?_ | refine hc_drawQ (by kernel_rfl) (by kernel_rfl) ?_ | refine hc_condT rfl ?_ | refine hc_condF rfl ?_ | refine hc_block ?_ | refine hc_ret ?_ | refine hc_exit ?_ | refine hc_skip ?_ | refine hc_condDT rfl (by omega) ?_ | refine hc_condDF rfl (by omega) ?_ | refine hc_condD rfl (fun hc => ?_) (fun hc => ?_) | refine hc_cond rfl (fun hc => ?_) (fun hc => ?_))) | ((with_reducible refine mHQ ?_); (first | with_reducible refine hq_then ?_ | with_reducible refine hq_ret_then ?_ | with_reducible refine hq_ret_block ?_ | with_reducible refine hq_exit_then ?_ | with_reducible refine hq_exit_block ?_ | with_reducible refine hq_norm_block ?_ | with_reducible refine hq_cut_ret ?_ | (refine hq_exit_other ?_ ?_; exact rfl) | (refine hq_cut_exit ?_ ?_; exact rfl)))))
       all_goals (refine hq_ret1 (.inr rfl) rfl rfl ⟨congrArg Value.bool ?_, rfl⟩ (fun _ h => h.emp); unfold attrB; first | (rw [eq_comm, decide_eq_false_iff_not]; omega) | (rw [decide_eq_decide]; omega)))
theorem isNm_size {s : ByteArray} (h : isNm s = true) : s.size ≤ 23 := nm_size2 h
set_option maxHeartbeats 4000000 in
theorem rentries_reads {xs : List EntV} {w : World} {v : Value} (h : Rd entE w v xs) : Calls Tryz.prog 98 [v].toArray w (fun en w' => en = .returned (.bool (listB none xs && decide (xs.length ≤ 16))) ∧ But w w' nowhere) := by
  obtain ⟨a1, c1, rfl, l1, m1, k1⟩ := h
  unfold maxLen at m1
  refine reads_of Tryz.func98 rfl rfl (Nat.le_of_ble_eq_true rfl) ?_
  by_cases h16 : 16 < xs.length
  · rw [show (listB none xs && decide (xs.length ≤ 16)) = false by rw [decide_eq_false (by omega), Bool.and_false]]
    (refine Zx rfl rfl rfl rfl rfl ?_; refine hc_seq ?_; refine Zw rfl rfl rfl rfl rfl ?_; refine hx_plain rfl ?_; refine h_len_slice rfl rfl rfl UC.out rfl rfl rfl ?_; refine Zc rfl rfl rfl rfl rfl rfl rfl ?_; refine Zt ?_; refine hc_condDT rfl (by omega) ?_; refine Zx rfl rfl rfl rfl rfl ?_; refine hc_ret ?_; refine hq_ret_then ?_)
    exact hq_ret1 (.inr rfl) rfl rfl ⟨rfl, rfl⟩ (fun _ h => h.emp)
  rw [show (listB none xs && decide (xs.length ≤ 16)) = listB none xs by rw [decide_eq_true (by omega), Bool.and_true]]
  (refine Zx rfl rfl rfl rfl rfl ?_; refine hc_seq ?_; refine Zw rfl rfl rfl rfl rfl ?_; refine hx_plain rfl ?_; refine h_len_slice rfl rfl rfl UC.out rfl rfl rfl ?_; refine Zc rfl rfl rfl rfl rfl rfl rfl ?_; refine Zt ?_; refine hc_condDF rfl (by omega) ?_; refine hc_skip ?_; refine hq_then ?_; refine hc_seq ?_; refine Zx rfl rfl rfl rfl rfl ?_; refine hc_block ?_)
  refine hc_cut (id := 0) (Y := Unit) (fun _ => []) (fun _ => []) (fun _ => listB none xs = true) ?_ ?_
  · refine hc_loop (X := Nat) (fun i => [(0, .slice a1 xs.length c1), (3, .int .i64 (i : Int))]) (fun _ => []) (fun i => i ≤ xs.length ∧ listB none xs = listB (if i = 0 then none else xs[i - 1]?) (xs.drop i) ∧ ∀ j q, j < i → xs[j]? = some q → isNm q.name = true) (fun i => xs.length - i) 0 (.cons rfl (.cons rfl .nil)) ⟨Nat.zero_le _, rfl, fun j q hj _ => absurd hj (Nat.not_lt_zero _)⟩ (fun _ h => h) ?_
    rintro i ⟨hi, he, hnm⟩
    by_cases hlt : i < xs.length
    · have hxs : xs ≠ [] := by
        intro e
        rw [e] at hlt
        exact absurd hlt (Nat.not_lt_zero _)
      obtain ⟨g1, o1, rfl, r1⟩ := k1.resolve_left hxs
      obtain ⟨⟨nm, id, kind⟩, hq⟩ : ∃ q, xs[i]? = some q := ⟨_, List.getElem?_eq_getElem hlt⟩
      have e1 : xs[((i : Nat) : Int).toNat]? = some ⟨nm, id, kind⟩ := hq
      have hd : xs.drop i = ⟨nm, id, kind⟩ :: xs.drop (i + 1) := by
        rw [List.drop_eq_getElem_cons hlt]
        congr 1
        exact (List.getElem?_eq_some_iff.1 hq).2
      rw [hd] at he
      obtain ⟨b1, hb1⟩ : ∃ b, isNm nm = b := ⟨_, rfl⟩
      (refine hc_seq ?_; refine Zw rfl rfl rfl rfl rfl ?_; refine Zm rfl rfl rfl rfl rfl ?_; refine hx_plain rfl ?_; refine h_len_slice rfl rfl rfl UC.out rfl rfl rfl ?_; refine Zc rfl rfl rfl rfl rfl rfl rfl ?_; refine Zt ?_; refine hc_condDT rfl (by omega) ?_; refine hc_skip ?_; refine hq_then ?_; refine hc_seq ?_; refine hc_block ?_; refine Zw rfl rfl rfl rfl rfl ?_; refine Zm rfl rfl rfl rfl rfl ?_; refine hx_plain rfl ?_; refine h_indexAddr rfl rfl rfl UC.out IC.size (by omega) (by omega) rfl rfl ?_; refine hx_plain rfl ?_; refine h_fieldAddr rfl rfl FC.out rfl rfl ?_; refine hx_plain rfl ?_; refine h_rdLoad rfl r1 rfl UC.out rfl (by with_reducible assumption) rfl rfl rfl ?_; refine hx_plain rfl ?_)
      refine h_callR rfl rfl rfl rfl rfl rfl EC.out ((rname_spec nm).reads _) ?_
      rw [hb1]
      cases b1
      · (refine Zn rfl rfl rfl rfl rfl ?_; refine hc_seq ?_; refine Zw rfl rfl rfl rfl rfl ?_; refine hx_plain rfl ?_; refine h_not rfl rfl rfl rfl ?_; (iterate 2 (refine Zm rfl rfl rfl rfl rfl ?_; (iterate 7 (refine hx_skip rfl rfl rfl rfl rfl rfl ?_)); refine Zq rfl rfl rfl rfl rfl rfl ?_)); refine Zt ?_; refine hc_condT rfl ?_; refine Zx rfl rfl rfl rfl rfl ?_; refine hc_ret ?_; refine hq_ret_then ?_; refine hq_ret_block ?_; (iterate 2 (refine hq_ret_then ?_)); refine hq_cut_ret ?_; refine hq_ret_block ?_; refine hq_ret_then ?_)
        exact hq_ret1 (.inr rfl) rfl rfl ⟨congrArg Value.bool (by rw [he]; simp [listB, entB, hb1]), rfl⟩ (fun _ h => h.emp)
      (refine Zn rfl rfl rfl rfl rfl ?_; refine hc_seq ?_; refine Zw rfl rfl rfl rfl rfl ?_; refine hx_plain rfl ?_; refine h_not rfl rfl rfl rfl ?_; refine Zm rfl rfl rfl rfl rfl ?_; (iterate 2 (refine hx_yes rfl rfl rfl ?_; refine h_move rfl rfl rfl rfl ?_)); refine hx_yes rfl rfl rfl ?_; refine h_indexAddr rfl rfl rfl UC.out IC.size (by omega) (by omega) rfl rfl ?_; refine hx_yes rfl rfl rfl ?_; refine h_fieldAddr rfl rfl FC.out rfl rfl ?_; refine hx_yes rfl rfl rfl ?_; refine h_rdLoad rfl r1 rfl UC.out rfl (by with_reducible assumption) rfl rfl rfl ?_; refine hx_yes rfl rfl rfl ?_)
      refine h_callR rfl rfl rfl rfl rfl rfl EC.out ((within_spec _ _ _).reads _) ?_
      have hb2 : isIdB id = decide (1 ≤ id ∧ id ≤ 562949953421311) := rfl
      by_cases c1' : 1 ≤ id ∧ id ≤ 562949953421311
      case neg =>
        rw [decide_eq_false c1'] at hb2 ⊢
        (refine hx_yes rfl rfl rfl ?_; refine h_not rfl rfl rfl rfl ?_; refine Zp rfl rfl rfl rfl rfl rfl ?_; refine Zm rfl rfl rfl rfl rfl ?_; (iterate 7 (refine hx_skip rfl rfl rfl rfl rfl rfl ?_)); refine Zq rfl rfl rfl rfl rfl rfl ?_; refine Zt ?_; refine hc_condT rfl ?_; refine Zx rfl rfl rfl rfl rfl ?_; refine hc_ret ?_; refine hq_ret_then ?_; refine hq_ret_block ?_; (iterate 2 (refine hq_ret_then ?_)); refine hq_cut_ret ?_; refine hq_ret_block ?_; refine hq_ret_then ?_)
        exact hq_ret1 (.inr rfl) rfl rfl ⟨congrArg Value.bool (by rw [he]; simp [listB, entB, hb1, hb2]), rfl⟩ (fun _ h => h.emp)
      rw [decide_eq_true c1'] at hb2 ⊢
      (refine hx_yes rfl rfl rfl ?_; refine h_not rfl rfl rfl rfl ?_; refine Zp rfl rfl rfl rfl rfl rfl ?_; refine Zm rfl rfl rfl rfl rfl ?_; (iterate 2 (refine hx_yes rfl rfl rfl ?_; refine h_move rfl rfl rfl rfl ?_)); refine hx_yes rfl rfl rfl ?_; refine h_indexAddr rfl rfl rfl UC.out IC.size (by omega) (by omega) rfl rfl ?_; refine hx_yes rfl rfl rfl ?_; refine h_fieldAddr rfl rfl FC.out rfl rfl ?_; refine hx_yes rfl rfl rfl ?_; refine h_rdLoad rfl r1 rfl UC.out rfl (by with_reducible assumption) rfl rfl rfl ?_; refine hx_yes rfl rfl rfl ?_)
      refine h_callR rfl rfl rfl rfl rfl rfl EC.out ((within_spec _ _ _).reads _) ?_
      by_cases c2 : 1 ≤ kind ∧ kind ≤ 2
      case neg =>
        have hkb : (decide (kind = 1) || decide (kind = 2)) = false := by
          rw [Bool.or_eq_false_iff, decide_eq_false_iff_not, decide_eq_false_iff_not]
          omega
        rw [decide_eq_false c2]
        (refine hx_yes rfl rfl rfl ?_; refine h_not rfl rfl rfl rfl ?_; refine Zp rfl rfl rfl rfl rfl rfl ?_; refine Zt ?_; refine hc_condT rfl ?_; refine Zx rfl rfl rfl rfl rfl ?_; refine hc_ret ?_; refine hq_ret_then ?_; refine hq_ret_block ?_; (iterate 2 (refine hq_ret_then ?_)); refine hq_cut_ret ?_; refine hq_ret_block ?_; refine hq_ret_then ?_)
        exact hq_ret1 (.inr rfl) rfl rfl ⟨congrArg Value.bool (by rw [he]; simp [listB, entB, hb1, hb2, hkb]), rfl⟩ (fun _ h => h.emp)
      have hkb : (decide (kind = 1) || decide (kind = 2)) = true := by
        rw [Bool.or_eq_true, decide_eq_true_iff, decide_eq_true_iff]
        omega
      rw [decide_eq_true c2]
      have hnx : ∀ j q, j < i + 1 → xs[j]? = some q → isNm q.name = true := fun j q hj hjq => by
        by_cases hji : j = i
        · rw [hji, hq] at hjq
          injection hjq with hjq
          rw [← hjq]
          exact hb1
        · exact hnm j q (by omega) hjq
      by_cases hi0 : i = 0
      · subst hi0
        (refine hx_yes rfl rfl rfl ?_; refine h_not rfl rfl rfl rfl ?_; refine Zp rfl rfl rfl rfl rfl rfl ?_; refine Zt ?_; refine hc_condF rfl ?_; refine hc_skip ?_; refine hq_then ?_; refine hc_seq ?_; refine hc_draw0 (by kernel_rfl) (by kernel_rfl) ?_; refine Zm rfl rfl rfl rfl rfl ?_; refine Zc rfl rfl rfl rfl rfl rfl rfl ?_; refine Zm rfl rfl rfl rfl rfl ?_; (iterate 13 (refine hx_skip rfl rfl rfl rfl rfl rfl ?_)); refine Zp rfl rfl rfl rfl rfl rfl ?_; refine Zt ?_; refine hc_condF rfl ?_; refine hc_skip ?_; refine hq_norm_block ?_; refine hq_then ?_; refine hc_lex ?_; refine Zm rfl rfl rfl rfl rfl ?_; refine hx_plain rfl ?_; refine h_arithI rfl rfl rfl rfl (by omega) rfl rfl ?_; refine Za rfl rfl rfl rfl rfl ?_; refine hx_nil ?_)
        refine hq_round 1 (by omega) ⟨by omega, ?_, hnx⟩ (.cons rfl (.cons rfl .nil)) (fun _ h => h.emp)
        rw [he]
        have e0 : xs[0]? = some _ := hq
        simp [listB, entB, hb1, hb2, hkb, e0]
      · obtain ⟨⟨pn, pid, pk⟩, hp⟩ : ∃ q, xs[i - 1]? = some q := ⟨_, List.getElem?_eq_getElem (by omega)⟩
        have e2 : xs[(((i : Nat) : Int) - 1).toNat]? = some ⟨pn, pid, pk⟩ := by rw [← hp]; congr 1; omega
        rw [if_neg hi0, hp] at he
        (refine hx_yes rfl rfl rfl ?_; refine h_not rfl rfl rfl rfl ?_; refine Zp rfl rfl rfl rfl rfl rfl ?_; refine Zt ?_; refine hc_condF rfl ?_; refine hc_skip ?_; refine hq_then ?_; refine hc_seq ?_; refine hc_draw0 (by kernel_rfl) (by kernel_rfl) ?_; refine Zm rfl rfl rfl rfl rfl ?_; refine Zc rfl rfl rfl rfl rfl rfl rfl ?_; refine Zm rfl rfl rfl rfl rfl ?_; refine hx_gT rfl rfl rfl (by omega) ?_; (iterate 2 (refine hx_yes rfl rfl rfl ?_; refine h_move rfl rfl rfl rfl ?_)); refine hx_yes rfl rfl rfl ?_; refine h_indexAddr rfl rfl rfl UC.out IC.size (by omega) (by omega) rfl rfl ?_; refine hx_yes rfl rfl rfl ?_; refine h_fieldAddr rfl rfl FC.out rfl rfl ?_; refine hx_yes rfl rfl rfl ?_; refine h_rdLoad rfl r1 rfl UC.out rfl (by with_reducible assumption) rfl rfl rfl ?_; (iterate 2 (refine hx_yes rfl rfl rfl ?_; refine h_move rfl rfl rfl rfl ?_)); refine hx_yes rfl rfl rfl ?_; refine h_arithI rfl rfl rfl rfl (by omega) rfl rfl ?_; refine hx_yes rfl rfl rfl ?_; refine h_indexAddr rfl rfl rfl UC.out IC.size (by omega) (by omega) rfl rfl ?_; refine hx_yes rfl rfl rfl ?_; refine h_fieldAddr rfl rfl FC.out rfl rfl ?_; refine hx_yes rfl rfl rfl ?_; refine h_rdLoad rfl r1 rfl UC.out rfl (by with_reducible assumption) rfl rfl rfl ?_; refine hx_yes rfl rfl rfl ?_)
        refine h_callR rfl rfl rfl rfl rfl rfl EC.out ((above_spec nm pn (by have := isNm_size hb1; omega)).reads _) ?_
        obtain ⟨b3, hb3⟩ : ∃ b, aboveS nm pn = b := ⟨_, rfl⟩
        have hle := aboveS_le nm pn
        rw [hb3] at hle ⊢
        cases b3
        · (refine hx_yes rfl rfl rfl ?_; refine h_not rfl rfl rfl rfl ?_; refine Zq rfl rfl rfl rfl rfl rfl ?_; refine Zt ?_; refine hc_condT rfl ?_; refine Zx rfl rfl rfl rfl rfl ?_; refine hc_ret ?_; refine hq_ret_block ?_; (iterate 2 (refine hq_ret_then ?_)); refine hq_cut_ret ?_; refine hq_ret_block ?_; refine hq_ret_then ?_)
          exact hq_ret1 (.inr rfl) rfl rfl ⟨congrArg Value.bool (by rw [he]; simp [listB, entB, hb1, hb2, ← hle]), rfl⟩ (fun _ h => h.emp)
        · (refine hx_yes rfl rfl rfl ?_; refine h_not rfl rfl rfl rfl ?_; refine Zq rfl rfl rfl rfl rfl rfl ?_; refine Zt ?_; refine hc_condF rfl ?_; refine hc_skip ?_; refine hq_norm_block ?_; refine hq_then ?_; refine hc_lex ?_; refine Zm rfl rfl rfl rfl rfl ?_; refine hx_plain rfl ?_; refine h_arithI rfl rfl rfl rfl (by omega) rfl rfl ?_; refine Za rfl rfl rfl rfl rfl ?_; refine hx_nil ?_)
          refine hq_round (i + 1) (by omega) ⟨by omega, ?_, hnx⟩ (.cons rfl (.cons rfl .nil)) (fun _ h => h.emp)
          rw [he, if_neg (by omega), Nat.add_sub_cancel, hq]
          simp [listB, entB, hb1, hb2, hkb, ← hle]
    · (refine hc_seq ?_; refine Zw rfl rfl rfl rfl rfl ?_; refine Zm rfl rfl rfl rfl rfl ?_; refine hx_plain rfl ?_; refine h_len_slice rfl rfl rfl UC.out rfl rfl rfl ?_; refine Zc rfl rfl rfl rfl rfl rfl rfl ?_; refine Zt ?_; refine hc_condDF rfl (by omega) ?_; refine hc_exit ?_; (iterate 2 (refine hq_exit_then ?_)))
      refine hq_cut () ?_ .nil (fun _ h => h)
      rw [List.drop_eq_nil_of_le (by omega)] at he
      rw [he]
      split <;> simp [listB]
  rintro ⟨⟩ he
  (refine hq_exit_block ?_; refine hq_then ?_; refine Zx rfl rfl rfl rfl rfl ?_; refine hc_ret ?_)
  exact hq_ret1 (.inr rfl) rfl rfl ⟨congrArg Value.bool he.symm, rfl⟩ (fun _ h => h.emp)
end Go.Proofs.YtfolhmlldoepfaaGreatDoor
namespace Go.Proofs.YtfolhmlldoepfaaGreatDoor
open Go Go.Proofs Go.RowKit
set_option maxRecDepth 4000
section
variable {P : Program} {n : Nat} {ds : List Deferred} {ops : Array Oper} {ev wk : Nat → Bool} {K : Env → (World → Prop) → Prop} {r : List Oper} {o : Oper} {k : Nat} {e : Env} {C : World → Prop}
/-- A part of a text. -/
theorem h_sliceS {t : Nat} {x y z : Operand} {s : ByteArray} {i j : Int} (ho : o.op = .slice t x (some y) (some z) none) (hx : e.op x = some (.string s)) (hy : e.op y = some (.int .i64 i)) (hz : e.op z = some (.int .i64 j)) (hu : P.underlying t = some .string) (hi : 0 ≤ i ∧ i ≤ j ∧ j ≤ s.size)
    {dd : Nat} (hdst : o.dst = some dd) (hd : okD n (some dd) = true) (h : HX P n ds ops ev wk K r (k + 1) ((dd, .string (s.extract i.toNat j.toNat)) :: e) C) : HX1 P n ds ops ev wk K o r k e C :=
  hx1_pure (by rw [ho]; rfl) hdst hd (fun a w ha => by
    have := run_slice_string (P := P) w t s .i64 .i64 i j hu hi.1 hi.2.1 hi.2.2
    simp [execOp, ho, ha.eval hx, ha.eval hy, ha.eval hz, Instr.sliceAt, run_und hu, this]) h
end
theorem while_split : ∀ (l : List UInt8) (k : Nat), k ≤ l.length → (∀ j x, j < k → l[j]? = some x → x ≠ 47) → (k = l.length ∨ l[k]? = some 47) → l.takeWhile (· ≠ 47) = l.take k ∧ l.dropWhile (· ≠ 47) = l.drop k
  | [], k, hk, _, _ => by
    obtain rfl : k = 0 := Nat.le_zero.1 hk
    exact ⟨rfl, rfl⟩
  | c :: l, 0, _, _, h => by
    rcases h with h | h
    · cases h
    · obtain rfl : c = 47 := by simpa using h
      exact ⟨rfl, rfl⟩
  | c :: l, k + 1, hk, hne, h => by
    have hc : c ≠ 47 := hne 0 c (Nat.zero_lt_succ _) rfl
    obtain ⟨h1, h2⟩ := while_split l k (by simpa using hk) (fun j x hj hx => hne (j + 1) x (by omega) hx) (h.elim (fun h => .inl (by simpa using h)) (fun h => .inr (by simpa using h)))
    rw [List.takeWhile_cons, List.dropWhile_cons, if_pos (by simpa using hc), if_pos (by simpa using hc), h1, h2]
    exact ⟨rfl, rfl⟩
theorem partsL_step {L : List UInt8} {f i : Nat} (hf : 1 ≤ f) (hfi : f ≤ i) (hi : i ≤ L.length) (hne : ∀ j x, f ≤ j → j < i → L[j]? = some x → x ≠ 47) (h : i = L.length ∨ L[i]? = some 47) :
    Nm.partsL (L.drop (f - 1)) = (L.drop f).take (i - f) :: Nm.partsL (L.drop i) := by
  obtain ⟨c, hc⟩ : ∃ c, L[f - 1]? = some c := ⟨_, List.getElem?_eq_getElem (by omega)⟩
  have hd : L.drop (f - 1) = c :: L.drop f := by
    rw [List.drop_eq_getElem_cons (by omega), show f - 1 + 1 = f by omega]
    congr 1
    exact (List.getElem?_eq_some_iff.1 hc).2
  obtain ⟨h1, h2⟩ := while_split (L.drop f) (i - f) (by rw [List.length_drop]; omega) (fun j x hj hx => hne (f + j) x (by omega) (by omega) (by rw [List.getElem?_drop] at hx; exact hx)) (by
    rw [List.length_drop, List.getElem?_drop, show f + (i - f) = i by omega]
    rcases h with h | h
    · exact .inl (by omega)
    · exact .inr h)
  rw [hd, Nm.partsL, h1, h2, List.drop_drop, show f + (i - f) = i by omega]
theorem str_row (s : ByteArray) : ∀ (i : Nat) (q : ByteArray), [s][i]? = some q → ∀ (j : Nat) (u : Value), (strE.enc q)[j]? = some u → (#[Value.string s] : Array Value)[i * strE.sz + j]? = some u := by
  intro i q hq j u hu
  have hi : i = 0 := by
    have := (List.getElem?_eq_some_iff.1 hq).1
    have h1 : i < 1 := this
    omega
  subst hi
  have hj : j = 0 := by
    have := (List.getElem?_eq_some_iff.1 hu).1
    have h1 : j < 1 := this
    omega
  subst hj
  injection hq with hq
  subst hq
  exact hu
theorem ext_list (s : ByteArray) (i j : Nat) : (s.extract i j).data.toList = (s.data.toList.drop i).take (j - i) := by
  rw [ByteArray.data_extract, Array.toList_extract]
set_option maxHeartbeats 4000000 in
theorem rparts_makes {w : World} (s : ByteArray) (h1 : 1 ≤ s.size) (hs : s.size ≤ 1048576) :
    Makes Tryz.prog 126 [.string s] w (fun u M => M = [RowV strE 9 u (Nm.partsB s)]) := by
  refine makes_of Tryz.func126 rfl rfl (Nat.le_of_ble_eq_true rfl) ?_
  have hsz : s.data.toList.length = s.size := Array.length_toList
  obtain ⟨L, hL⟩ : ∃ L, s.data.toList = L := ⟨_, rfl⟩
  rw [hL] at hsz
  have hpl : ∀ n (l : List UInt8), l.length ≤ n → (Nm.partsL l).length ≤ n := by
    intro n
    induction n with
    | zero =>
      intro l h
      rw [List.eq_nil_of_length_eq_zero (Nat.le_zero.1 h), Nm.partsL]
      exact Nat.le_refl _
    | succ n ih =>
      intro l h
      cases l with
      | nil => rw [Nm.partsL]; exact Nat.zero_le _
      | cons c t =>
        rw [Nm.partsL, List.length_cons]
        have hd := (List.dropWhile_sublist (l := t) (· ≠ 47)).length_le
        have := ih (t.dropWhile (· ≠ 47)) (by rw [List.length_cons] at h; omega)
        omega
  ((iterate 3 (refine Zx rfl rfl rfl rfl rfl ?_)); refine hc_seq ?_; refine Zx rfl rfl rfl rfl rfl ?_; refine hc_block ?_)
  refine hc_cut (id := 0) (Y := Value) (fun v => [(3, v)]) (fun v => [RowV strE 9 v (Nm.partsB s)]) (fun _ => True) ?_ ?_
  · refine hc_loop (X := Nat × Nat × List (List UInt8) × Value) (fun x => [(0, .string s), (3, x.2.2.2), (4, .int .i64 (x.2.1 : Int)), (5, .int .i64 (x.1 : Int))]) (fun x => [RowV strE 9 x.2.2.2 (x.2.2.1.map fun l => (⟨l.toArray⟩ : ByteArray))]) (fun x => 1 ≤ x.2.1 ∧ x.2.1 ≤ x.1 ∧ x.1 ≤ s.size + 1 ∧ (x.1 = s.size + 1 → x.2.1 = s.size + 1) ∧ (∀ j c, x.2.1 ≤ j → j < x.1 → L[j]? = some c → c ≠ 47) ∧ Nm.partsL L = x.2.2.1 ++ Nm.partsL (L.drop (x.2.1 - 1))) (fun x => s.size + 1 - x.1) (1, 1, [], .slice none 0 0) (.cons rfl (.cons rfl (.cons rfl (.cons rfl .nil)))) ⟨Nat.le_refl _, Nat.le_refl _, by show 1 ≤ s.size + 1; omega, fun h => h, fun j c h h' => by dsimp only at h h'; omega, rfl⟩ (fun _ h => St.rowV_nil h) ?_
    rintro ⟨i, f, pre, v⟩ ⟨q1, q2, q3, q4, q5, q6⟩
    dsimp only at q1 q2 q3 q4 q5 q6 ⊢
    by_cases hlt : i ≤ s.size
    · have hpre : (pre.map fun l => (⟨l.toArray⟩ : ByteArray)).length ≤ 1048576 := by
        have h2 := congrArg List.length q6
        have h3 := hpl _ L (Nat.le_refl _)
        rw [List.length_append] at h2
        rw [List.length_map]
        omega
      have happ : (i = L.length ∨ L[i]? = some 47) → Nm.partsL L = (pre ++ [(L.drop f).take (i - f)]) ++ Nm.partsL (L.drop (i + 1 - 1)) := fun h => by
        rw [q6, partsL_step q1 q2 (by omega) q5 h, List.append_assoc]
        rfl
      have hext : ((pre ++ [(L.drop f).take (i - f)]).map fun l => (⟨l.toArray⟩ : ByteArray)) = (pre.map fun l => (⟨l.toArray⟩ : ByteArray)) ++ [s.extract f i] := by
        rw [List.map_append, ← hL, ← ext_list]
        rfl
      by_cases hend : i = s.size
      · (refine hc_seq ?_; refine Zw rfl rfl rfl rfl rfl ?_; refine Zm rfl rfl rfl rfl rfl ?_; refine hx_plain rfl ?_; refine h_len_str rfl rfl UC.out rfl rfl rfl ?_; refine Zc rfl rfl rfl rfl rfl rfl rfl ?_; refine Zt ?_; refine hc_condDT rfl (by omega) ?_; refine hc_skip ?_; refine hq_then ?_; refine hc_seq ?_; refine hc_block ?_; refine Zw rfl rfl rfl rfl rfl ?_; refine Zm rfl rfl rfl rfl rfl ?_; refine hx_plain rfl ?_; refine h_len_str rfl rfl UC.out rfl rfl rfl ?_; refine Zc rfl rfl rfl rfl rfl rfl rfl ?_; refine Zm rfl rfl rfl rfl rfl ?_; refine hx_gT rfl rfl rfl (by omega) ?_; (iterate 4 (refine hx_skip rfl rfl rfl rfl rfl rfl ?_)); refine Zq rfl rfl rfl rfl rfl rfl ?_; refine Zt ?_; refine hc_condT rfl ?_; refine Zw rfl rfl rfl rfl rfl ?_; (iterate 3 (refine Zm rfl rfl rfl rfl rfl ?_)); refine hx_plain rfl ?_)
        refine h_sliceS rfl rfl rfl rfl UC.out (by omega) rfl rfl ?_
        rw [Int.toNat_natCast, Int.toNat_natCast]
        (refine hx_plain rfl ?_; (refine h_buildSlice rfl rfl rfl UC.out IC.size IC.zero rfl rfl (by intro v hv; simp at hv; first | (subst hv; rfl) | (rcases hv with rfl | rfl <;> rfl) | (rcases hv with rfl | rfl | rfl <;> rfl)) (by omega) rfl rfl (fun _ => ?_)); refine hx_plain rfl ?_)
        refine h_append (m := 1) (E := strE) (T := 9) (xs := pre.map fun l => (⟨l.toArray⟩ : ByteArray)) (ys := [s.extract f i]) rfl rfl rfl rfl rfl UC.out IC.out rfl (.cons (.tail .head) (.cons .head .nil)) rfl (str_row _) (by unfold maxLen; omega) (by omega) rfl rfl (fun v' _ => ?_)
        (refine Zn rfl rfl rfl rfl rfl ?_; refine hc_lex ?_; refine Zm rfl rfl rfl rfl rfl ?_; refine hx_plain rfl ?_; refine h_arithI rfl rfl rfl rfl (by omega) rfl rfl ?_; refine Za rfl rfl rfl rfl rfl ?_; refine hx_nil ?_; refine hq_norm_block ?_; refine hq_then ?_; refine hc_lex ?_; refine Zm rfl rfl rfl rfl rfl ?_; refine hx_plain rfl ?_; refine h_arithI rfl rfl rfl rfl (by omega) rfl rfl ?_; refine Za rfl rfl rfl rfl rfl ?_; refine hx_nil ?_)
        refine hq_round (i + 1, i + 1, pre ++ [(L.drop f).take (i - f)], v') (by show s.size + 1 - (i + 1) < s.size + 1 - i; omega) ⟨by show 1 ≤ i + 1; omega, Nat.le_refl _, by show i + 1 ≤ s.size + 1; omega, fun h => h, fun j c h h' => by exfalso; dsimp only at h h'; omega, happ (.inl (by omega))⟩ (.cons rfl (.cons rfl (.cons rfl (.cons rfl .nil)))) (fun _ h => ?_)
        show St w nowhere [RowV strE 9 v' ((pre ++ [(L.drop f).take (i - f)]).map fun l => (⟨l.toArray⟩ : ByteArray))] _
        rw [hext]
        exact h.sub (.cons .head .nil)
      · have hlt2 : i < s.size := by omega
        obtain ⟨b, hb⟩ : ∃ b, L[i]? = some b := ⟨_, List.getElem?_eq_getElem (by omega)⟩
        have e1 : s.data[((i : Nat) : Int).toNat]? = some b := by
          rw [← Array.getElem?_toList, hL]
          exact hb
        by_cases h47 : b = 47
        · subst h47
          (refine hc_seq ?_; refine Zw rfl rfl rfl rfl rfl ?_; refine Zm rfl rfl rfl rfl rfl ?_; refine hx_plain rfl ?_; refine h_len_str rfl rfl UC.out rfl rfl rfl ?_; refine Zc rfl rfl rfl rfl rfl rfl rfl ?_; refine Zt ?_; refine hc_condDT rfl (by omega) ?_; refine hc_skip ?_; refine hq_then ?_; refine hc_seq ?_; refine hc_block ?_; refine Zw rfl rfl rfl rfl rfl ?_; refine Zm rfl rfl rfl rfl rfl ?_; refine hx_plain rfl ?_; refine h_len_str rfl rfl UC.out rfl rfl rfl ?_; refine Zc rfl rfl rfl rfl rfl rfl rfl ?_; refine Zm rfl rfl rfl rfl rfl ?_; refine hx_gF rfl rfl rfl (by omega) ?_; (iterate 2 (refine hx_yes rfl rfl rfl ?_; refine h_move rfl rfl rfl rfl ?_)); refine hx_yes rfl rfl rfl ?_; refine h_indexS rfl rfl rfl UC.out (by omega) (by with_reducible assumption) rfl rfl ?_; refine hx_yes rfl rfl rfl ?_; refine h_cmp rfl rfl rfl rfl rfl rfl ?_; refine Zp rfl rfl rfl rfl rfl rfl ?_; refine Zt ?_; refine hc_condT rfl ?_; refine Zw rfl rfl rfl rfl rfl ?_; (iterate 3 (refine Zm rfl rfl rfl rfl rfl ?_)); refine hx_plain rfl ?_)
          refine h_sliceS rfl rfl rfl rfl UC.out (by omega) rfl rfl ?_
          rw [Int.toNat_natCast, Int.toNat_natCast]
          (refine hx_plain rfl ?_; (refine h_buildSlice rfl rfl rfl UC.out IC.size IC.zero rfl rfl (by intro v hv; simp at hv; first | (subst hv; rfl) | (rcases hv with rfl | rfl <;> rfl) | (rcases hv with rfl | rfl | rfl <;> rfl)) (by omega) rfl rfl (fun _ => ?_)); refine hx_plain rfl ?_)
          refine h_append (m := 1) (E := strE) (T := 9) (xs := pre.map fun l => (⟨l.toArray⟩ : ByteArray)) (ys := [s.extract f i]) rfl rfl rfl rfl rfl UC.out IC.out rfl (.cons (.tail .head) (.cons .head .nil)) rfl (str_row _) (by unfold maxLen; omega) (by omega) rfl rfl (fun v' _ => ?_)
          (refine Zn rfl rfl rfl rfl rfl ?_; refine hc_lex ?_; refine Zm rfl rfl rfl rfl rfl ?_; refine hx_plain rfl ?_; refine h_arithI rfl rfl rfl rfl (by omega) rfl rfl ?_; refine Za rfl rfl rfl rfl rfl ?_; refine hx_nil ?_; refine hq_norm_block ?_; refine hq_then ?_; refine hc_lex ?_; refine Zm rfl rfl rfl rfl rfl ?_; refine hx_plain rfl ?_; refine h_arithI rfl rfl rfl rfl (by omega) rfl rfl ?_; refine Za rfl rfl rfl rfl rfl ?_; refine hx_nil ?_)
          refine hq_round (i + 1, i + 1, pre ++ [(L.drop f).take (i - f)], v') (by show s.size + 1 - (i + 1) < s.size + 1 - i; omega) ⟨by show 1 ≤ i + 1; omega, Nat.le_refl _, by show i + 1 ≤ s.size + 1; omega, fun h => h, fun j c h h' => by exfalso; dsimp only at h h'; omega, happ (.inr hb)⟩ (.cons rfl (.cons rfl (.cons rfl (.cons rfl .nil)))) (fun _ h => ?_)
          show St w nowhere [RowV strE 9 v' ((pre ++ [(L.drop f).take (i - f)]).map fun l => (⟨l.toArray⟩ : ByteArray))] _
          rw [hext]
          exact h.sub (.cons .head .nil)
        · have hb47 : ¬ (b.toNat : Int) = 47 := fun h => h47 (UInt8.toNat_inj.1 (by show b.toNat = 47; omega))
          (refine hc_seq ?_; refine Zw rfl rfl rfl rfl rfl ?_; refine Zm rfl rfl rfl rfl rfl ?_; refine hx_plain rfl ?_; refine h_len_str rfl rfl UC.out rfl rfl rfl ?_; refine Zc rfl rfl rfl rfl rfl rfl rfl ?_; refine Zt ?_; refine hc_condDT rfl (by omega) ?_; refine hc_skip ?_; refine hq_then ?_; refine hc_seq ?_; refine hc_block ?_; refine Zw rfl rfl rfl rfl rfl ?_; refine Zm rfl rfl rfl rfl rfl ?_; refine hx_plain rfl ?_; refine h_len_str rfl rfl UC.out rfl rfl rfl ?_; refine Zc rfl rfl rfl rfl rfl rfl rfl ?_; refine Zm rfl rfl rfl rfl rfl ?_; refine hx_gF rfl rfl rfl (by omega) ?_; (iterate 2 (refine hx_yes rfl rfl rfl ?_; refine h_move rfl rfl rfl rfl ?_)); refine hx_yes rfl rfl rfl ?_; refine h_indexS rfl rfl rfl UC.out (by omega) (by with_reducible assumption) rfl rfl ?_; refine hx_yes rfl rfl rfl ?_; refine h_cmp rfl rfl rfl rfl rfl rfl ?_; refine Zp rfl rfl rfl rfl rfl rfl ?_; refine Zt ?_; refine hc_condDF rfl (by omega) ?_; refine hc_skip ?_; refine hq_norm_block ?_; refine hq_then ?_; refine hc_lex ?_; refine Zm rfl rfl rfl rfl rfl ?_; refine hx_plain rfl ?_; refine h_arithI rfl rfl rfl rfl (by omega) rfl rfl ?_; refine Za rfl rfl rfl rfl rfl ?_; refine hx_nil ?_)
          refine hq_round (i + 1, f, pre, v) (by show s.size + 1 - (i + 1) < s.size + 1 - i; omega) ⟨q1, by show f ≤ i + 1; omega, by show i + 1 ≤ s.size + 1; omega, fun h => by exfalso; dsimp only at h; omega, fun j c h h' hj => ?_, q6⟩ (.cons rfl (.cons rfl (.cons rfl (.cons rfl .nil)))) (fun _ h => h)
          dsimp only at h h'
          by_cases hji : j = i
          · rw [hji, hb] at hj
            injection hj with hj
            rw [← hj]
            exact h47
          · exact q5 j c h (by omega) hj
    · (refine hc_seq ?_; refine Zw rfl rfl rfl rfl rfl ?_; refine Zm rfl rfl rfl rfl rfl ?_; refine hx_plain rfl ?_; refine h_len_str rfl rfl UC.out rfl rfl rfl ?_; refine Zc rfl rfl rfl rfl rfl rfl rfl ?_; refine Zt ?_; refine hc_condDF rfl (by omega) ?_; refine hc_exit ?_; (iterate 2 (refine hq_exit_then ?_)))
      refine hq_cut v trivial (.cons rfl .nil) (fun _ h => ?_)
      have hf := q4 (by omega)
      rw [hf, show L.drop (s.size + 1 - 1) = [] from List.drop_eq_nil_of_le (by omega), Nm.partsL, List.append_nil] at q6
      rw [Nm.partsB, hL, q6]
      exact h
  · rintro v _
    (refine hq_exit_block ?_; refine hq_then ?_; refine Zw rfl rfl rfl rfl rfl ?_; refine Zn rfl rfl rfl rfl rfl ?_; refine hc_ret ?_)
    refine hq_ret1 (.inr rfl) rfl rfl rfl (fun _ h => h)
def judgeV (l : List ByteArray) : Int := if 16 < l.length then 33 else Nm.faultOf l
set_option maxHeartbeats 1000000 in
theorem rjudge_reads {xs : List ByteArray} {w : World} {v : Value} (h : Rd strE w v xs) : Calls Tryz.prog 127 [v].toArray w (fun en w' => en = .returned (.int .i64 (judgeV xs)) ∧ But w w' nowhere) := by
  obtain ⟨a1, c1, rfl, l1, m1, k1⟩ := h
  unfold maxLen at m1
  refine reads_of Tryz.func127 rfl rfl (Nat.le_of_ble_eq_true rfl) ?_
  by_cases h16 : 16 < xs.length
  · rw [show judgeV xs = 33 from if_pos h16]
    (refine Zx rfl rfl rfl rfl rfl ?_; refine hc_seq ?_; refine Zw rfl rfl rfl rfl rfl ?_; refine hx_plain rfl ?_; refine h_len_slice rfl rfl rfl UC.out rfl rfl rfl ?_; refine Zc rfl rfl rfl rfl rfl rfl rfl ?_; refine Zt ?_; refine hc_condDT rfl (by omega) ?_; refine Zx rfl rfl rfl rfl rfl ?_; refine hc_ret ?_; refine hq_ret_then ?_)
    exact hq_ret1 (.inr rfl) rfl rfl ⟨rfl, rfl⟩ (fun _ h => h.emp)
  rw [show judgeV xs = Nm.faultOf xs from if_neg h16]
  (refine Zx rfl rfl rfl rfl rfl ?_; refine hc_seq ?_; refine Zw rfl rfl rfl rfl rfl ?_; refine hx_plain rfl ?_; refine h_len_slice rfl rfl rfl UC.out rfl rfl rfl ?_; refine Zc rfl rfl rfl rfl rfl rfl rfl ?_; refine Zt ?_; refine hc_condDF rfl (by omega) ?_; refine hc_skip ?_; refine hq_then ?_; refine hc_seq ?_; refine Zx rfl rfl rfl rfl rfl ?_; refine hc_block ?_)
  refine hc_cut (id := 0) (Y := Unit) (fun _ => []) (fun _ => []) (fun _ => Nm.faultOf xs = 0) ?_ ?_
  · refine hc_loop (X := Nat) (fun i => [(0, .slice a1 xs.length c1), (3, .int .i64 (i : Int))]) (fun _ => []) (fun i => i ≤ xs.length ∧ Nm.faultOf (xs.take i) = 0) (fun i => xs.length - i) 0 (.cons rfl (.cons rfl .nil)) ⟨Nat.zero_le _, rfl⟩ (fun _ h => h.emp) ?_
    rintro i ⟨hi, hz⟩
    by_cases hlt : i < xs.length
    · have hxs : xs ≠ [] := by
        intro e
        rw [e] at hlt
        exact absurd hlt (Nat.not_lt_zero _)
      obtain ⟨g1, o1, rfl, r1⟩ := k1.resolve_left hxs
      obtain ⟨x, hq⟩ : ∃ q, xs[i]? = some q := ⟨_, List.getElem?_eq_getElem hlt⟩
      have e1 : xs[((i : Nat) : Int).toNat]? = some x := hq
      have hnx : Nm.faultOf (xs.take (i + 1)) = Nm.checkV x := by
        rw [List.take_add_one, hq]
        show Nm.faultOf (xs.take i ++ [x]) = _
        rw [Nm.faultOf_snoc, if_pos hz]
      obtain ⟨c, hc⟩ : ∃ c, Nm.checkV x = c := ⟨_, rfl⟩
      have hc01 := Nm.checkV_01 x
      rw [hc] at hc01 hnx
      (refine hc_seq ?_; refine Zw rfl rfl rfl rfl rfl ?_; refine Zm rfl rfl rfl rfl rfl ?_; refine hx_plain rfl ?_; refine h_len_slice rfl rfl rfl UC.out rfl rfl rfl ?_; refine Zc rfl rfl rfl rfl rfl rfl rfl ?_; refine Zt ?_; refine hc_condDT rfl (by omega) ?_; refine hc_skip ?_; refine hq_then ?_; refine hc_seq ?_; refine hc_block ?_; refine Zw rfl rfl rfl rfl rfl ?_; refine Zm rfl rfl rfl rfl rfl ?_; refine hx_plain rfl ?_; refine h_indexAddr rfl rfl rfl UC.out IC.size (by omega) (by omega) rfl rfl ?_; refine hx_plain rfl ?_; refine h_rdLoad1 rfl r1 rfl UC.out rfl (by with_reducible assumption) rfl rfl rfl ?_; refine hx_plain rfl ?_)
      refine h_callR rfl rfl rfl rfl rfl rfl EC.out ((rcheck_spec x).reads _) ?_
      rw [hc]
      rcases hc01 with rfl | rfl
      · (refine Zn rfl rfl rfl rfl rfl ?_; refine Zw rfl rfl rfl rfl rfl ?_; refine Zc rfl rfl rfl rfl rfl rfl rfl ?_; refine Zt ?_; refine hc_condF rfl ?_; refine hc_skip ?_; refine hq_norm_block ?_; refine hq_then ?_; refine hc_lex ?_; refine Zm rfl rfl rfl rfl rfl ?_; refine hx_plain rfl ?_; refine h_arithI rfl rfl rfl rfl (by omega) rfl rfl ?_; refine Za rfl rfl rfl rfl rfl ?_; refine hx_nil ?_)
        exact hq_round (i + 1) (by omega) ⟨by omega, hnx⟩ (.cons rfl (.cons rfl .nil)) (fun _ h => h)
      · have hbad : 31 = Nm.faultOf xs := by
          unfold Nm.faultOf
          rw [if_neg]
          intro hall
          have := List.all_eq_true.1 hall x (List.mem_iff_getElem?.2 ⟨i, hq⟩)
          rw [hc] at this
          cases this
        (refine Zn rfl rfl rfl rfl rfl ?_; refine Zw rfl rfl rfl rfl rfl ?_; refine Zc rfl rfl rfl rfl rfl rfl rfl ?_; refine Zt ?_; refine hc_condT rfl ?_; refine Zw rfl rfl rfl rfl rfl ?_; refine Zn rfl rfl rfl rfl rfl ?_; refine hc_ret ?_; refine hq_ret_block ?_; (iterate 2 (refine hq_ret_then ?_)); refine hq_cut_ret ?_; refine hq_ret_block ?_; refine hq_ret_then ?_)
        exact hq_ret1 (.inr rfl) rfl rfl ⟨congrArg (Value.int .i64) hbad, rfl⟩ (fun _ h => h.emp)
    · (refine hc_seq ?_; refine Zw rfl rfl rfl rfl rfl ?_; refine Zm rfl rfl rfl rfl rfl ?_; refine hx_plain rfl ?_; refine h_len_slice rfl rfl rfl UC.out rfl rfl rfl ?_; refine Zc rfl rfl rfl rfl rfl rfl rfl ?_; refine Zt ?_; refine hc_condDF rfl (by omega) ?_; refine hc_exit ?_; (iterate 2 (refine hq_exit_then ?_)))
      refine hq_cut () ?_ .nil (fun _ h => h)
      rwa [List.take_of_length_le (by omega)] at hz
  rintro ⟨⟩ he
  (refine hq_exit_block ?_; refine hq_then ?_; refine Zx rfl rfl rfl rfl rfl ?_; refine hc_ret ?_)
  exact hq_ret1 (.inr rfl) rfl rfl ⟨by rw [he], rfl⟩ (fun _ h => h.emp)
set_option maxHeartbeats 8000000 in
theorem rsplit_makes {w : World} (s : ByteArray) (hs : s.size ≤ 1048576) :
    Makes Tryz.prog 93 [.string s] w (fun u M => ∃ sl : SlV, u = .tuple #[sl.v, .int .i64 (spl s).2] ∧ M = [RowV strE 9 sl.v (spl s).1]) := by
  refine makes_of Tryz.func93 rfl rfl (Nat.le_of_ble_eq_true rfl) ?_
  have hsz : s.data.toList.length = s.size := Array.length_toList
  have h0 : (⟨#[]⟩ : ByteArray).toList = [] := by rw [ByteArray.toList_eq]
  have h47 : (⟨#[47]⟩ : ByteArray).toList = [47] := by rw [ByteArray.toList_eq]
  have hbad : s.data.toList.head? ≠ some 47 → spl s = ([], 32) := fun h => if_pos h
  by_cases hz : s.size = 0
  · obtain rfl : s = ⟨#[]⟩ := by
      have : s.data.toList = [] := List.eq_nil_of_length_eq_zero (by omega)
      cases s
      congr 1
      exact Array.toList_inj.1 this
    rw [hbad (by simp)]
    (refine Zv rfl rfl rfl rfl rfl ?_; refine Zn rfl rfl rfl rfl rfl ?_; refine hc_seq ?_; refine Zw rfl rfl rfl rfl rfl ?_; refine hx_plain rfl ?_; refine h_cmpS rfl rfl rfl rfl rfl rfl ?_; refine Zm rfl rfl rfl rfl rfl ?_; refine hx_gcase rfl rfl rfl (fun hc => ?_) (fun hc => ?_); (iterate 3 (refine hx_skip rfl rfl rfl rfl rfl rfl ?_)); refine Zq rfl rfl rfl rfl rfl rfl ?_; refine Zt ?_; refine hc_condT rfl ?_; refine Zv rfl rfl rfl rfl rfl ?_; refine Zn rfl rfl rfl rfl rfl ?_; refine hc_ret ?_; refine hq_ret_then ?_; rotate_left; refine hx_yes rfl rfl rfl ?_; refine h_move rfl rfl rfl rfl ?_; refine hx_yes rfl rfl rfl ?_; rotate_left)
    · exact hq_ret2 (.inr rfl) rfl rfl rfl ⟨⟨none, 0, 0⟩, rfl, rfl⟩ (fun _ h => St.rowV_nil h)
    · rw [beq_self_eq_true] at hc
      cases hc
  have hne : (s.toList == (⟨#[]⟩ : ByteArray).toList) = false := by
    rw [h0, ByteArray.toList_eq]
    refine beq_eq_false_iff_ne.2 (fun e => ?_)
    rw [e] at hsz
    exact hz hsz.symm
  obtain ⟨c, hc⟩ : ∃ c, s.data.toList[0]? = some c := ⟨_, List.getElem?_eq_getElem (by omega)⟩
  have e1 : s.data[(0 : Int).toNat]? = some c := by
    rw [← Array.getElem?_toList]
    exact hc
  have hhd : s.data.toList.head? = some c := by rw [List.head?_eq_getElem?]; exact hc
  by_cases hc47 : c = 47
  case neg =>
    have hcc : ¬ (c.toNat : Int) = 47 := fun h => hc47 (UInt8.toNat_inj.1 (by show c.toNat = 47; omega))
    rw [hbad (by rw [hhd]; intro e; injection e with e; exact hc47 e)]
    (refine Zv rfl rfl rfl rfl rfl ?_; refine Zn rfl rfl rfl rfl rfl ?_; refine hc_seq ?_; refine Zw rfl rfl rfl rfl rfl ?_; refine hx_plain rfl ?_; refine h_cmpS rfl rfl rfl rfl rfl rfl ?_; refine Zm rfl rfl rfl rfl rfl ?_; refine hx_gcase rfl rfl rfl (fun hc => ?_) (fun hc => ?_); (iterate 3 (refine hx_skip rfl rfl rfl rfl rfl rfl ?_)); refine Zq rfl rfl rfl rfl rfl rfl ?_; refine Zt ?_; refine hc_condT rfl ?_; refine Zv rfl rfl rfl rfl rfl ?_; refine Zn rfl rfl rfl rfl rfl ?_; refine hc_ret ?_; refine hq_ret_then ?_; rotate_left; refine hx_yes rfl rfl rfl ?_; refine h_move rfl rfl rfl rfl ?_; refine hx_yes rfl rfl rfl ?_; refine h_indexS rfl rfl rfl UC.out (by omega) (by with_reducible assumption) rfl rfl ?_; refine hx_yes rfl rfl rfl ?_; refine h_cmp rfl rfl rfl rfl rfl rfl ?_; refine Zp rfl rfl rfl rfl rfl rfl ?_; refine Zt ?_; refine hc_condDT rfl (by omega) ?_; refine Zv rfl rfl rfl rfl rfl ?_; refine Zn rfl rfl rfl rfl rfl ?_; refine hc_ret ?_; refine hq_ret_then ?_; rotate_left)
    · rw [hne] at hc
      cases hc
    exact hq_ret2 (.inr rfl) rfl rfl rfl ⟨⟨none, 0, 0⟩, rfl, rfl⟩ (fun _ h => St.rowV_nil h)
  subst hc47
  by_cases hone : s.data.toList = [47]
  · have hsl : spl s = ([], 0) := by unfold spl; rw [if_neg (by rw [hhd]; simp), if_pos hone]
    have heq : (s.toList == (⟨#[47]⟩ : ByteArray).toList) = true := by rw [h47, ByteArray.toList_eq, hone]; rfl
    rw [hsl]
    (refine Zv rfl rfl rfl rfl rfl ?_; refine Zn rfl rfl rfl rfl rfl ?_; refine hc_seq ?_; refine Zw rfl rfl rfl rfl rfl ?_; refine hx_plain rfl ?_; refine h_cmpS rfl rfl rfl rfl rfl rfl ?_; refine Zm rfl rfl rfl rfl rfl ?_; refine hx_gcase rfl rfl rfl (fun hc => ?_) (fun hc => ?_); (iterate 3 (refine hx_skip rfl rfl rfl rfl rfl rfl ?_)); refine Zq rfl rfl rfl rfl rfl rfl ?_; refine Zt ?_; refine hc_condT rfl ?_; refine Zv rfl rfl rfl rfl rfl ?_; refine Zn rfl rfl rfl rfl rfl ?_; refine hc_ret ?_; refine hq_ret_then ?_; rotate_left; refine hx_yes rfl rfl rfl ?_; refine h_move rfl rfl rfl rfl ?_; refine hx_yes rfl rfl rfl ?_; refine h_indexS rfl rfl rfl UC.out (by omega) (by with_reducible assumption) rfl rfl ?_; refine hx_yes rfl rfl rfl ?_; refine h_cmp rfl rfl rfl rfl rfl rfl ?_; refine Zp rfl rfl rfl rfl rfl rfl ?_; refine Zt ?_; refine hc_condF rfl ?_; refine hc_skip ?_; refine hq_then ?_; refine hc_seq ?_; refine Zw rfl rfl rfl rfl rfl ?_; refine hx_plain rfl ?_; refine h_cmpS rfl rfl rfl rfl rfl rfl ?_; refine Zt ?_; refine hc_cond rfl (fun hc => ?_) (fun hc => ?_); refine Zv rfl rfl rfl rfl rfl ?_; refine Zn rfl rfl rfl rfl rfl ?_; refine hc_ret ?_; refine hq_ret_then ?_; rotate_left; refine hc_skip ?_; refine hq_then ?_; refine Zw rfl rfl rfl rfl rfl ?_; refine hx_plain rfl ?_; rotate_left)
    · rename_i hc
      rw [hne] at hc
      cases hc
    · exact hq_ret2 (.inr rfl) rfl rfl rfl ⟨⟨none, 0, 0⟩, rfl, rfl⟩ (fun _ h => St.rowV_nil h)
    · rename_i hc
      rw [heq] at hc
      cases hc
  have hsl : spl s = Nm.splitV s := by unfold spl; rw [if_neg (by rw [hhd]; simp), if_neg hone]
  have heq : (s.toList == (⟨#[47]⟩ : ByteArray).toList) = false := by
    rw [h47, ByteArray.toList_eq]
    exact beq_eq_false_iff_ne.2 hone
  rw [hsl]
  (refine Zv rfl rfl rfl rfl rfl ?_; refine Zn rfl rfl rfl rfl rfl ?_; refine hc_seq ?_; refine Zw rfl rfl rfl rfl rfl ?_; refine hx_plain rfl ?_; refine h_cmpS rfl rfl rfl rfl rfl rfl ?_; refine Zm rfl rfl rfl rfl rfl ?_; refine hx_gcase rfl rfl rfl (fun hc => ?_) (fun hc => ?_); (iterate 3 (refine hx_skip rfl rfl rfl rfl rfl rfl ?_)); refine Zq rfl rfl rfl rfl rfl rfl ?_; refine Zt ?_; refine hc_condT rfl ?_; refine Zv rfl rfl rfl rfl rfl ?_; refine Zn rfl rfl rfl rfl rfl ?_; refine hc_ret ?_; refine hq_ret_then ?_; rotate_left; refine hx_yes rfl rfl rfl ?_; refine h_move rfl rfl rfl rfl ?_; refine hx_yes rfl rfl rfl ?_; refine h_indexS rfl rfl rfl UC.out (by omega) (by with_reducible assumption) rfl rfl ?_; refine hx_yes rfl rfl rfl ?_; refine h_cmp rfl rfl rfl rfl rfl rfl ?_; refine Zp rfl rfl rfl rfl rfl rfl ?_; refine Zt ?_; refine hc_condF rfl ?_; refine hc_skip ?_; refine hq_then ?_; refine hc_seq ?_; refine Zw rfl rfl rfl rfl rfl ?_; refine hx_plain rfl ?_; refine h_cmpS rfl rfl rfl rfl rfl rfl ?_; refine Zt ?_; refine hc_cond rfl (fun hc => ?_) (fun hc => ?_); refine Zv rfl rfl rfl rfl rfl ?_; refine Zn rfl rfl rfl rfl rfl ?_; refine hc_ret ?_; refine hq_ret_then ?_; rotate_left; refine hc_skip ?_; refine hq_then ?_; refine Zw rfl rfl rfl rfl rfl ?_; refine hx_plain rfl ?_; rotate_left)
  · rename_i hc
    rw [hne] at hc
    cases hc
  · rename_i hc
    rw [heq] at hc
    cases hc
  refine h_callW (post := fun u M => M = [RowV strE 9 u (Nm.partsB s)]) rfl rfl rfl rfl rfl rfl rfl rfl EC.out (fun w' h => rparts_makes s (by omega) hs) ?_
  rintro u M rfl
  (refine Zn rfl rfl rfl rfl rfl ?_; refine Zw rfl rfl rfl rfl rfl ?_; refine hx_plain rfl ?_)
  refine h_callRd rfl rfl rfl rfl rfl rfl EC.out (fun w' h => rjudge_reads (h.rdRowV .head)) ?_
  have hsv : Nm.splitV s = if judgeV (Nm.partsB s) = 0 then (Nm.partsB s, 0) else ([], judgeV (Nm.partsB s)) := by
    unfold Nm.splitV judgeV
    by_cases q : 16 < (Nm.partsB s).length
    · rw [if_pos q, if_pos q]; rfl
    · rw [if_neg q, if_neg q]
      by_cases q2 : Nm.faultOf (Nm.partsB s) = 0
      · rw [if_pos q2, if_pos q2]
      · rw [if_neg q2, if_neg q2]
        congr 1
        unfold Nm.faultOf at q2 ⊢
        split
        · rename_i h; exact absurd (if_pos h) q2
        · rfl
  rw [hsv]
  obtain ⟨j, hj⟩ : ∃ j, judgeV (Nm.partsB s) = j := ⟨_, rfl⟩
  rw [hj]
  by_cases hj0 : j = 0
  · subst hj0
    rw [if_pos rfl]
    (refine Zn rfl rfl rfl rfl rfl ?_; refine hc_seq ?_; refine Zw rfl rfl rfl rfl rfl ?_; refine Zc rfl rfl rfl rfl rfl rfl rfl ?_; refine Zt ?_; refine hc_condF rfl ?_; refine hc_skip ?_; refine hq_then ?_; refine Zw rfl rfl rfl rfl rfl ?_; refine Za rfl rfl rfl rfl rfl ?_; refine Zn rfl rfl rfl rfl rfl ?_; refine hc_ret ?_)
    refine hq_know (fun _ h => St.rowV_shapeS h .head) ?_
    rintro ⟨a, c, rfl⟩
    exact hq_ret2 (.inr rfl) rfl rfl rfl ⟨⟨a, _, c⟩, rfl, rfl⟩ (fun _ h => h)
  · rw [if_neg hj0]
    (refine Zn rfl rfl rfl rfl rfl ?_; refine hc_seq ?_; refine Zw rfl rfl rfl rfl rfl ?_; refine Zc rfl rfl rfl rfl rfl rfl rfl ?_; refine Zt ?_; refine hc_condDT rfl (by omega) ?_; refine Zw rfl rfl rfl rfl rfl ?_; refine Za rfl rfl rfl rfl rfl ?_; refine Zn rfl rfl rfl rfl rfl ?_; refine hc_ret ?_; refine hq_ret_then ?_)
    exact hq_ret2 (.inr rfl) rfl rfl rfl ⟨⟨none, 0, 0⟩, rfl, rfl⟩ (fun _ h => St.rowV_nil h.emp)
end Go.Proofs.YtfolhmlldoepfaaGreatDoor
namespace Go.Proofs.YtfolhmlldoepfaaGreatDoor
open Go Go.Proofs Go.RowKit
set_option maxRecDepth 4000
theorem hasL_len (op : Int) : (hasL op).length ≤ 1000 := by
  unfold hasL
  repeat' split
  all_goals decide
theorem good_eq {r : ReqV} (ho : 1 ≤ r.op ∧ r.op ≤ 10) : r.good = ((bif (hasL r.op).contains 112 then decide ((spl r.path).2 = 0) else nilS r.path) && (bif (hasL r.op).contains 105 then decide (1 ≤ r.id ∧ r.id ≤ 562949953421311) else decide (r.id = 0)) && (bif (hasL r.op).contains 111 then decide (0 ≤ r.off ∧ r.off ≤ 69632) else decide (r.off = 0)) && (bif (hasL r.op).contains 108 then decide (1 ≤ r.len ∧ r.len ≤ (if r.op = 10 then 16 else 1024)) else decide (r.len = 0)) && (bif (hasL r.op).contains 110 then (isNm r.name || (decide (r.op = 10) && nilS r.name)) else nilS r.name) && (bif (hasL r.op).contains 106 then decide (1 ≤ r.id2 ∧ r.id2 ≤ 562949953421311) else decide (r.id2 = 0)) && (bif (hasL r.op).contains 109 then isNm r.name2 else nilS r.name2) && (bif (hasL r.op).contains 100 then decide (1 ≤ (r.dv.len : Int) ∧ (r.dv.len : Int) ≤ 1024) else decide ((r.dv.len : Int) = 0))) := by
  obtain ⟨client, seq, ack, epoch, op, id, id2, off, len, path, name, name2, ⟨da, dn, dc⟩⟩ := r
  dsimp only at ho ⊢
  have hd0 : decide ((dn : Int) = 0) = decide (dn = 0) := by rw [decide_eq_decide]; omega
  have hd1 : decide (1 ≤ (dn : Int) ∧ (dn : Int) ≤ 1024) = (decide (1 ≤ dn) && decide (dn ≤ 1024)) := by rw [← Bool.decide_and, decide_eq_decide]; omega
  rw [hd0, hd1]
  have hc : op = 1 ∨ op = 2 ∨ op = 3 ∨ op = 4 ∨ op = 5 ∨ op = 6 ∨ op = 7 ∨ op = 8 ∨ op = 9 ∨ op = 10 := by omega
  rcases hc with rfl | rfl | rfl | rfl | rfl | rfl | rfl | rfl | rfl | rfl
  all_goals
    simp only [ReqV.good, rqFs, askQ, Int.reduceToNat, List.getElem?_cons_succ, List.getElem?_cons_zero, Option.getD_some, List.map_cons, List.map_nil, fldAt, clrAll, List.foldl_cons, List.foldl_nil, RqF.clr, ReqV.zeroB, List.all_cons, List.all_nil, RqF.ok, hasL, isPth, isIdB, isNmN, Bool.decide_and]
    rw [Bool.eq_iff_iff]
    simp [nilS]
  all_goals grind
set_option maxHeartbeats 8000000 in
theorem rfields_reads {w : World} (r : ReqV) (ho : 1 ≤ r.op ∧ r.op ≤ 10) (hs : r.path.size ≤ 1048576) : Calls Tryz.prog 49 [Value.agg r.cs].toArray w (fun en w' => en = .returned (.int .i64 (if r.good then 0 else 46)) ∧ But w w' nowhere) := by
  rw [good_eq ho]
  obtain ⟨client, seq, ack, epoch, op, id, id2, off, len, path, name, name2, ⟨da, dn, dc⟩⟩ := r
  dsimp only [ReqV.cs, SlV.v] at ho hs ⊢
  obtain ⟨most, hmost⟩ : ∃ m : Int, (if op = 10 then 16 else 1024) = m := ⟨_, rfl⟩
  rw [hmost]
  refine reads_of Tryz.func49 rfl rfl (Nat.le_of_ble_eq_true rfl) ?_
  have hcat : ∀ b : UInt8, ∃ v : Bool, (hasL op).contains b = v := fun b => ⟨_, rfl⟩
  (refine Zl rfl ?_; (refine h_box rfl rfl rfl rfl rfl rfl (fun _ => ?_)); refine Zn rfl rfl rfl rfl rfl ?_; refine Zl rfl ?_; refine h_fieldAddr0 rfl rfl FC.out rfl rfl ?_; refine Zh rfl rfl rfl rfl rfl rfl rfl ?_; refine hx_plain rfl ?_)
  refine h_callR rfl rfl rfl rfl rfl rfl EC.out ((has_spec op).reads _) ?_
  (refine Zn rfl rfl rfl rfl rfl ?_; refine Zl rfl ?_; refine h_fieldAddr0 rfl rfl FC.out rfl rfl ?_; refine Zh rfl rfl rfl rfl rfl rfl rfl ?_; refine hx_plain rfl ?_)
  refine h_callW rfl rfl rfl rfl rfl rfl rfl rfl EC.out (fun w' h => rsplit_makes path hs) ?_
  rintro u M ⟨sl, rfl, rfl⟩
  (refine Zm rfl rfl rfl rfl rfl ?_; (iterate 2 (refine hx_plain rfl ?_; refine h_extract rfl rfl rfl rfl rfl ?_)); refine Za rfl rfl rfl rfl rfl ?_; refine Zn rfl rfl rfl rfl rfl ?_)
  rename_i bx
  refine hc_st (C' := St w nowhere [Blk bx (.cells #[.int .i64 client, .int .i64 seq, .int .i64 ack, .int .i64 epoch, .int .i64 op, .int .i64 id, .int .i64 id2, .int .i64 off, .int .i64 len, .string path, .string name, .string name2, .slice da dn dc] 24 (0, 0))]) (fun _ h => h.sub (.cons (.tail .head) .nil)) ?_
  refine hc_seq ?_
  refine hc_lex ?_
  (refine Zn rfl rfl rfl rfl rfl ?_)
  refine hc_meet (Y := Unit) (fun _ => [(1, .pointer (some ⟨bx, 0, none⟩)), (3, .string ⟨(hasL op).toArray⟩), (5, .int .i64 (spl path).2), (6, .int .i64 most)]) (fun _ => [Blk bx (.cells #[.int .i64 client, .int .i64 seq, .int .i64 ack, .int .i64 epoch, .int .i64 op, .int .i64 id, .int .i64 id2, .int .i64 off, .int .i64 len, .string path, .string name, .string name2, .slice da dn dc] 24 (0, 0))]) (fun _ => True) ?_ ?_
  · (refine Zl rfl ?_; refine h_fieldAddr0 rfl rfl FC.out rfl rfl ?_; refine Zh rfl rfl rfl rfl rfl rfl rfl ?_; refine Zc rfl rfl rfl rfl rfl rfl rfl ?_; refine Zt ?_; refine hc_condD rfl (fun hc => ?_) (fun hc => ?_); refine hc_lex ?_; refine Za rfl rfl rfl rfl rfl ?_; refine hx_nil ?_; rotate_left; refine hc_skip ?_; rotate_left)
    all_goals (refine hq_met () trivial (.cons rfl (.cons rfl (.cons rfl (.cons ?_ .nil)))) (fun _ h => h); rw [← hmost]; first | rw [if_pos (by omega)]; rfl | rw [if_neg (by omega)]; rfl)
  rintro ⟨⟩ _
  refine hc_seq ?_
  refine hc_lex ?_
  (refine Zf rfl rfl rfl rfl rfl ?_; refine Zh rfl rfl rfl rfl rfl rfl rfl ?_; refine hx_plain rfl ?_; refine h_cmpS rfl rfl rfl rfl rfl rfl ?_; refine Zn rfl rfl rfl rfl rfl ?_)
  refine hc_meet (Y := Unit) (fun _ => [(1, .pointer (some ⟨bx, 0, none⟩)), (3, .string ⟨(hasL op).toArray⟩), (5, .int .i64 (spl path).2), (6, .int .i64 most), (7, .bool (bif (hasL op).contains 112 then decide ((spl path).2 = 0) else nilS path))]) (fun _ => [Blk bx (.cells #[.int .i64 client, .int .i64 seq, .int .i64 ack, .int .i64 epoch, .int .i64 op, .int .i64 id, .int .i64 id2, .int .i64 off, .int .i64 len, .string path, .string name, .string name2, .slice da dn dc] 24 (0, 0))]) (fun _ => True) ?_ ?_
  · obtain ⟨b, hb⟩ := hcat 112
    rw [hb]
    (refine Zw rfl rfl rfl rfl rfl ?_; refine hx_plain rfl ?_)
    refine h_callR rfl rfl rfl rfl rfl rfl EC.out ((in_spec (hasL op) 112 (hasL_len op)).reads _) ?_
    rw [hb]
    cases b
    · (refine Zt ?_; refine hc_condF rfl ?_; refine hc_skip ?_)
      exact hq_met () trivial (.cons rfl (.cons rfl (.cons rfl (.cons rfl (.cons rfl .nil))))) (fun _ h => h)
    · (refine Zt ?_; refine hc_condT rfl ?_; refine hc_lex ?_; refine Zm rfl rfl rfl rfl rfl ?_; refine Zc rfl rfl rfl rfl rfl rfl rfl ?_; refine Za rfl rfl rfl rfl rfl ?_; refine hx_nil ?_)
      exact hq_met () trivial (.cons rfl (.cons rfl (.cons rfl (.cons rfl (.cons rfl .nil))))) (fun _ h => h)
  rintro ⟨⟩ _
  refine hc_seq ?_
  refine hc_lex ?_
  (refine Zf rfl rfl rfl rfl rfl ?_; refine Zh rfl rfl rfl rfl rfl rfl rfl ?_; refine Zc rfl rfl rfl rfl rfl rfl rfl ?_; refine Zn rfl rfl rfl rfl rfl ?_)
  refine hc_meet (Y := Unit) (fun _ => [(1, .pointer (some ⟨bx, 0, none⟩)), (3, .string ⟨(hasL op).toArray⟩), (5, .int .i64 (spl path).2), (6, .int .i64 most), (7, .bool (bif (hasL op).contains 112 then decide ((spl path).2 = 0) else nilS path)), (8, .bool (bif (hasL op).contains 105 then decide (1 ≤ id ∧ id ≤ 562949953421311) else decide (id = 0)))]) (fun _ => [Blk bx (.cells #[.int .i64 client, .int .i64 seq, .int .i64 ack, .int .i64 epoch, .int .i64 op, .int .i64 id, .int .i64 id2, .int .i64 off, .int .i64 len, .string path, .string name, .string name2, .slice da dn dc] 24 (0, 0))]) (fun _ => True) ?_ ?_
  · obtain ⟨b, hb⟩ := hcat 105
    rw [hb]
    (refine Zw rfl rfl rfl rfl rfl ?_; refine hx_plain rfl ?_)
    refine h_callR rfl rfl rfl rfl rfl rfl EC.out ((in_spec (hasL op) 105 (hasL_len op)).reads _) ?_
    rw [hb]
    cases b
    · (refine Zt ?_; refine hc_condF rfl ?_; refine hc_skip ?_)
      exact hq_met () trivial (.cons rfl (.cons rfl (.cons rfl (.cons rfl (.cons rfl (.cons rfl .nil)))))) (fun _ h => h)
    · (refine Zt ?_; refine hc_condT rfl ?_; refine hc_lex ?_; refine Zf rfl rfl rfl rfl rfl ?_; refine Zh rfl rfl rfl rfl rfl rfl rfl ?_; refine hx_plain rfl ?_)
      refine h_callR rfl rfl rfl rfl rfl rfl EC.out ((within_spec _ _ _).reads _) ?_
      (refine Za rfl rfl rfl rfl rfl ?_; refine hx_nil ?_)
      exact hq_met () trivial (.cons rfl (.cons rfl (.cons rfl (.cons rfl (.cons rfl (.cons rfl .nil)))))) (fun _ h => h)
  rintro ⟨⟩ _
  refine hc_seq ?_
  refine hc_lex ?_
  (refine Zf rfl rfl rfl rfl rfl ?_; refine Zh rfl rfl rfl rfl rfl rfl rfl ?_; refine Zc rfl rfl rfl rfl rfl rfl rfl ?_; refine Zn rfl rfl rfl rfl rfl ?_)
  refine hc_meet (Y := Unit) (fun _ => [(1, .pointer (some ⟨bx, 0, none⟩)), (3, .string ⟨(hasL op).toArray⟩), (5, .int .i64 (spl path).2), (6, .int .i64 most), (7, .bool (bif (hasL op).contains 112 then decide ((spl path).2 = 0) else nilS path)), (8, .bool (bif (hasL op).contains 105 then decide (1 ≤ id ∧ id ≤ 562949953421311) else decide (id = 0))), (9, .bool (bif (hasL op).contains 111 then decide (0 ≤ off ∧ off ≤ 69632) else decide (off = 0)))]) (fun _ => [Blk bx (.cells #[.int .i64 client, .int .i64 seq, .int .i64 ack, .int .i64 epoch, .int .i64 op, .int .i64 id, .int .i64 id2, .int .i64 off, .int .i64 len, .string path, .string name, .string name2, .slice da dn dc] 24 (0, 0))]) (fun _ => True) ?_ ?_
  · obtain ⟨b, hb⟩ := hcat 111
    rw [hb]
    (refine Zw rfl rfl rfl rfl rfl ?_; refine hx_plain rfl ?_)
    refine h_callR rfl rfl rfl rfl rfl rfl EC.out ((in_spec (hasL op) 111 (hasL_len op)).reads _) ?_
    rw [hb]
    cases b
    · (refine Zt ?_; refine hc_condF rfl ?_; refine hc_skip ?_)
      exact hq_met () trivial (.cons rfl (.cons rfl (.cons rfl (.cons rfl (.cons rfl (.cons rfl (.cons rfl .nil))))))) (fun _ h => h)
    · (refine Zt ?_; refine hc_condT rfl ?_; refine hc_lex ?_; refine Zf rfl rfl rfl rfl rfl ?_; refine Zh rfl rfl rfl rfl rfl rfl rfl ?_; refine hx_plain rfl ?_)
      refine h_callR rfl rfl rfl rfl rfl rfl EC.out ((within_spec _ _ _).reads _) ?_
      (refine Za rfl rfl rfl rfl rfl ?_; refine hx_nil ?_)
      exact hq_met () trivial (.cons rfl (.cons rfl (.cons rfl (.cons rfl (.cons rfl (.cons rfl (.cons rfl .nil))))))) (fun _ h => h)
  rintro ⟨⟩ _
  refine hc_seq ?_
  refine hc_lex ?_
  (refine Zf rfl rfl rfl rfl rfl ?_; refine Zh rfl rfl rfl rfl rfl rfl rfl ?_; refine Zc rfl rfl rfl rfl rfl rfl rfl ?_; refine Zn rfl rfl rfl rfl rfl ?_)
  refine hc_meet (Y := Unit) (fun _ => [(1, .pointer (some ⟨bx, 0, none⟩)), (3, .string ⟨(hasL op).toArray⟩), (5, .int .i64 (spl path).2), (6, .int .i64 most), (7, .bool (bif (hasL op).contains 112 then decide ((spl path).2 = 0) else nilS path)), (8, .bool (bif (hasL op).contains 105 then decide (1 ≤ id ∧ id ≤ 562949953421311) else decide (id = 0))), (9, .bool (bif (hasL op).contains 111 then decide (0 ≤ off ∧ off ≤ 69632) else decide (off = 0))), (10, .bool (bif (hasL op).contains 108 then decide (1 ≤ len ∧ len ≤ most) else decide (len = 0)))]) (fun _ => [Blk bx (.cells #[.int .i64 client, .int .i64 seq, .int .i64 ack, .int .i64 epoch, .int .i64 op, .int .i64 id, .int .i64 id2, .int .i64 off, .int .i64 len, .string path, .string name, .string name2, .slice da dn dc] 24 (0, 0))]) (fun _ => True) ?_ ?_
  · obtain ⟨b, hb⟩ := hcat 108
    rw [hb]
    (refine Zw rfl rfl rfl rfl rfl ?_; refine hx_plain rfl ?_)
    refine h_callR rfl rfl rfl rfl rfl rfl EC.out ((in_spec (hasL op) 108 (hasL_len op)).reads _) ?_
    rw [hb]
    cases b
    · (refine Zt ?_; refine hc_condF rfl ?_; refine hc_skip ?_)
      exact hq_met () trivial (.cons rfl (.cons rfl (.cons rfl (.cons rfl (.cons rfl (.cons rfl (.cons rfl (.cons rfl .nil)))))))) (fun _ h => h)
    · (refine Zt ?_; refine hc_condT rfl ?_; refine hc_lex ?_; refine Zf rfl rfl rfl rfl rfl ?_; refine Zh rfl rfl rfl rfl rfl rfl rfl ?_; refine Zm rfl rfl rfl rfl rfl ?_; refine hx_plain rfl ?_)
      refine h_callR rfl rfl rfl rfl rfl rfl EC.out ((within_spec _ _ _).reads _) ?_
      (refine Za rfl rfl rfl rfl rfl ?_; refine hx_nil ?_)
      exact hq_met () trivial (.cons rfl (.cons rfl (.cons rfl (.cons rfl (.cons rfl (.cons rfl (.cons rfl (.cons rfl .nil)))))))) (fun _ h => h)
  rintro ⟨⟩ _
  refine hc_seq ?_
  refine hc_lex ?_
  (refine Zf rfl rfl rfl rfl rfl ?_; refine Zh rfl rfl rfl rfl rfl rfl rfl ?_; refine hx_plain rfl ?_; refine h_cmpS rfl rfl rfl rfl rfl rfl ?_; refine Zn rfl rfl rfl rfl rfl ?_)
  refine hc_meet (Y := Unit) (fun _ => [(1, .pointer (some ⟨bx, 0, none⟩)), (3, .string ⟨(hasL op).toArray⟩), (5, .int .i64 (spl path).2), (6, .int .i64 most), (7, .bool (bif (hasL op).contains 112 then decide ((spl path).2 = 0) else nilS path)), (8, .bool (bif (hasL op).contains 105 then decide (1 ≤ id ∧ id ≤ 562949953421311) else decide (id = 0))), (9, .bool (bif (hasL op).contains 111 then decide (0 ≤ off ∧ off ≤ 69632) else decide (off = 0))), (10, .bool (bif (hasL op).contains 108 then decide (1 ≤ len ∧ len ≤ most) else decide (len = 0))), (11, .bool (bif (hasL op).contains 110 then (isNm name || (decide (op = 10) && nilS name)) else nilS name))]) (fun _ => [Blk bx (.cells #[.int .i64 client, .int .i64 seq, .int .i64 ack, .int .i64 epoch, .int .i64 op, .int .i64 id, .int .i64 id2, .int .i64 off, .int .i64 len, .string path, .string name, .string name2, .slice da dn dc] 24 (0, 0))]) (fun _ => True) ?_ ?_
  · obtain ⟨b, hb⟩ := hcat 110
    rw [hb]
    (refine Zw rfl rfl rfl rfl rfl ?_; refine hx_plain rfl ?_)
    refine h_callR rfl rfl rfl rfl rfl rfl EC.out ((in_spec (hasL op) 110 (hasL_len op)).reads _) ?_
    rw [hb]
    cases b
    · (refine Zt ?_; refine hc_condF rfl ?_; refine hc_skip ?_)
      exact hq_met () trivial (.cons rfl (.cons rfl (.cons rfl (.cons rfl (.cons rfl (.cons rfl (.cons rfl (.cons rfl (.cons rfl .nil))))))))) (fun _ h => h)
    · (refine Zt ?_; refine hc_condT rfl ?_; refine hc_lex ?_; refine Zf rfl rfl rfl rfl rfl ?_; refine Zh rfl rfl rfl rfl rfl rfl rfl ?_; refine hx_plain rfl ?_)
      refine h_callR rfl rfl rfl rfl rfl rfl EC.out ((rname_spec _).reads _) ?_
      obtain ⟨nb, hnb⟩ : ∃ nb, isNm name = nb := ⟨_, rfl⟩
      rw [hnb]
      cases nb
      ·
        (refine Zm rfl rfl rfl rfl rfl ?_; refine hx_yes rfl rfl rfl ?_; refine h_fieldAddr0 rfl rfl FC.out rfl rfl ?_; refine hx_yes rfl rfl rfl ?_; refine h_load rfl rfl UC.out rfl .head rfl rfl rfl ?_; refine hx_yes rfl rfl rfl ?_; refine h_cmp rfl rfl rfl rfl rfl rfl ?_; refine hx_yes rfl rfl rfl ?_; refine h_move rfl rfl rfl rfl ?_; refine hx_gcaseD rfl rfl rfl (fun hc => ?_) (fun hc => ?_); refine hx_yes rfl rfl rfl ?_; refine h_fieldAddr0 rfl rfl FC.out rfl rfl ?_; refine hx_yes rfl rfl rfl ?_; refine h_load rfl rfl UC.out rfl .head rfl rfl rfl ?_; refine hx_yes rfl rfl rfl ?_; refine h_cmpS rfl rfl rfl rfl rfl rfl ?_; refine hx_yes rfl rfl rfl ?_; refine h_pickT rfl rfl rfl rfl rfl ?_; refine Zp rfl rfl rfl rfl rfl rfl ?_; refine Za rfl rfl rfl rfl rfl ?_; refine hx_nil ?_; rotate_left; (iterate 3 (refine hx_skip rfl rfl rfl rfl rfl rfl ?_)); refine hx_yes rfl rfl rfl ?_; refine h_pickF rfl rfl rfl rfl rfl ?_; refine Zp rfl rfl rfl rfl rfl rfl ?_; refine Za rfl rfl rfl rfl rfl ?_; refine hx_nil ?_; rotate_left)
        all_goals (refine hq_met () trivial (.cons rfl (.cons rfl (.cons rfl (.cons rfl (.cons rfl (.cons rfl (.cons rfl (.cons rfl (.cons ?_ .nil))))))))) (fun _ h => h); first | rfl | (refine congrArg (fun b => some (Value.bool b)) ?_; first | rfl | simp_all [nilS]))
      ·
        (refine Zm rfl rfl rfl rfl rfl ?_; (iterate 4 (refine hx_skip rfl rfl rfl rfl rfl rfl ?_)); (iterate 3 (refine hx_skipU rfl rfl rfl rfl rfl ?_)); refine hx_skip rfl rfl rfl rfl rfl rfl ?_; refine Zq rfl rfl rfl rfl rfl rfl ?_; refine Za rfl rfl rfl rfl rfl ?_; refine hx_nil ?_)
        all_goals (refine hq_met () trivial (.cons rfl (.cons rfl (.cons rfl (.cons rfl (.cons rfl (.cons rfl (.cons rfl (.cons rfl (.cons ?_ .nil))))))))) (fun _ h => h); first | rfl | (refine congrArg (fun b => some (Value.bool b)) ?_; first | rfl | simp_all [nilS]))
  rintro ⟨⟩ _
  refine hc_seq ?_
  refine hc_lex ?_
  (refine Zf rfl rfl rfl rfl rfl ?_; refine Zh rfl rfl rfl rfl rfl rfl rfl ?_; refine Zc rfl rfl rfl rfl rfl rfl rfl ?_; refine Zn rfl rfl rfl rfl rfl ?_)
  refine hc_meet (Y := Unit) (fun _ => [(1, .pointer (some ⟨bx, 0, none⟩)), (3, .string ⟨(hasL op).toArray⟩), (5, .int .i64 (spl path).2), (6, .int .i64 most), (7, .bool (bif (hasL op).contains 112 then decide ((spl path).2 = 0) else nilS path)), (8, .bool (bif (hasL op).contains 105 then decide (1 ≤ id ∧ id ≤ 562949953421311) else decide (id = 0))), (9, .bool (bif (hasL op).contains 111 then decide (0 ≤ off ∧ off ≤ 69632) else decide (off = 0))), (10, .bool (bif (hasL op).contains 108 then decide (1 ≤ len ∧ len ≤ most) else decide (len = 0))), (11, .bool (bif (hasL op).contains 110 then (isNm name || (decide (op = 10) && nilS name)) else nilS name)), (12, .bool (bif (hasL op).contains 106 then decide (1 ≤ id2 ∧ id2 ≤ 562949953421311) else decide (id2 = 0)))]) (fun _ => [Blk bx (.cells #[.int .i64 client, .int .i64 seq, .int .i64 ack, .int .i64 epoch, .int .i64 op, .int .i64 id, .int .i64 id2, .int .i64 off, .int .i64 len, .string path, .string name, .string name2, .slice da dn dc] 24 (0, 0))]) (fun _ => True) ?_ ?_
  · obtain ⟨b, hb⟩ := hcat 106
    rw [hb]
    (refine Zw rfl rfl rfl rfl rfl ?_; refine hx_plain rfl ?_)
    refine h_callR rfl rfl rfl rfl rfl rfl EC.out ((in_spec (hasL op) 106 (hasL_len op)).reads _) ?_
    rw [hb]
    cases b
    · (refine Zt ?_; refine hc_condF rfl ?_; refine hc_skip ?_)
      exact hq_met () trivial (.cons rfl (.cons rfl (.cons rfl (.cons rfl (.cons rfl (.cons rfl (.cons rfl (.cons rfl (.cons rfl (.cons rfl .nil)))))))))) (fun _ h => h)
    · (refine Zt ?_; refine hc_condT rfl ?_; refine hc_lex ?_; refine Zf rfl rfl rfl rfl rfl ?_; refine Zh rfl rfl rfl rfl rfl rfl rfl ?_; refine hx_plain rfl ?_)
      refine h_callR rfl rfl rfl rfl rfl rfl EC.out ((within_spec _ _ _).reads _) ?_
      (refine Za rfl rfl rfl rfl rfl ?_; refine hx_nil ?_)
      exact hq_met () trivial (.cons rfl (.cons rfl (.cons rfl (.cons rfl (.cons rfl (.cons rfl (.cons rfl (.cons rfl (.cons rfl (.cons rfl .nil)))))))))) (fun _ h => h)
  rintro ⟨⟩ _
  refine hc_seq ?_
  refine hc_lex ?_
  (refine Zf rfl rfl rfl rfl rfl ?_; refine Zh rfl rfl rfl rfl rfl rfl rfl ?_; refine hx_plain rfl ?_; refine h_cmpS rfl rfl rfl rfl rfl rfl ?_; refine Zn rfl rfl rfl rfl rfl ?_)
  refine hc_meet (Y := Unit) (fun _ => [(1, .pointer (some ⟨bx, 0, none⟩)), (3, .string ⟨(hasL op).toArray⟩), (5, .int .i64 (spl path).2), (6, .int .i64 most), (7, .bool (bif (hasL op).contains 112 then decide ((spl path).2 = 0) else nilS path)), (8, .bool (bif (hasL op).contains 105 then decide (1 ≤ id ∧ id ≤ 562949953421311) else decide (id = 0))), (9, .bool (bif (hasL op).contains 111 then decide (0 ≤ off ∧ off ≤ 69632) else decide (off = 0))), (10, .bool (bif (hasL op).contains 108 then decide (1 ≤ len ∧ len ≤ most) else decide (len = 0))), (11, .bool (bif (hasL op).contains 110 then (isNm name || (decide (op = 10) && nilS name)) else nilS name)), (12, .bool (bif (hasL op).contains 106 then decide (1 ≤ id2 ∧ id2 ≤ 562949953421311) else decide (id2 = 0))), (13, .bool (bif (hasL op).contains 109 then isNm name2 else nilS name2))]) (fun _ => [Blk bx (.cells #[.int .i64 client, .int .i64 seq, .int .i64 ack, .int .i64 epoch, .int .i64 op, .int .i64 id, .int .i64 id2, .int .i64 off, .int .i64 len, .string path, .string name, .string name2, .slice da dn dc] 24 (0, 0))]) (fun _ => True) ?_ ?_
  · obtain ⟨b, hb⟩ := hcat 109
    rw [hb]
    (refine Zw rfl rfl rfl rfl rfl ?_; refine hx_plain rfl ?_)
    refine h_callR rfl rfl rfl rfl rfl rfl EC.out ((in_spec (hasL op) 109 (hasL_len op)).reads _) ?_
    rw [hb]
    cases b
    · (refine Zt ?_; refine hc_condF rfl ?_; refine hc_skip ?_)
      exact hq_met () trivial (.cons rfl (.cons rfl (.cons rfl (.cons rfl (.cons rfl (.cons rfl (.cons rfl (.cons rfl (.cons rfl (.cons rfl (.cons rfl .nil))))))))))) (fun _ h => h)
    · (refine Zt ?_; refine hc_condT rfl ?_; refine hc_lex ?_; refine Zf rfl rfl rfl rfl rfl ?_; refine Zh rfl rfl rfl rfl rfl rfl rfl ?_; refine hx_plain rfl ?_)
      refine h_callR rfl rfl rfl rfl rfl rfl EC.out ((rname_spec _).reads _) ?_
      (refine Za rfl rfl rfl rfl rfl ?_; refine hx_nil ?_)
      exact hq_met () trivial (.cons rfl (.cons rfl (.cons rfl (.cons rfl (.cons rfl (.cons rfl (.cons rfl (.cons rfl (.cons rfl (.cons rfl (.cons rfl .nil))))))))))) (fun _ h => h)
  rintro ⟨⟩ _
  refine hc_seq ?_
  refine hc_lex ?_
  (refine Zf rfl rfl rfl rfl rfl ?_; refine Zh rfl rfl rfl rfl rfl rfl rfl ?_; refine hx_plain rfl ?_; refine h_len_slice rfl rfl rfl UC.out rfl rfl rfl ?_; refine Zc rfl rfl rfl rfl rfl rfl rfl ?_; refine Zn rfl rfl rfl rfl rfl ?_)
  refine hc_meet (Y := Unit) (fun _ => [(1, .pointer (some ⟨bx, 0, none⟩)), (3, .string ⟨(hasL op).toArray⟩), (5, .int .i64 (spl path).2), (6, .int .i64 most), (7, .bool (bif (hasL op).contains 112 then decide ((spl path).2 = 0) else nilS path)), (8, .bool (bif (hasL op).contains 105 then decide (1 ≤ id ∧ id ≤ 562949953421311) else decide (id = 0))), (9, .bool (bif (hasL op).contains 111 then decide (0 ≤ off ∧ off ≤ 69632) else decide (off = 0))), (10, .bool (bif (hasL op).contains 108 then decide (1 ≤ len ∧ len ≤ most) else decide (len = 0))), (11, .bool (bif (hasL op).contains 110 then (isNm name || (decide (op = 10) && nilS name)) else nilS name)), (12, .bool (bif (hasL op).contains 106 then decide (1 ≤ id2 ∧ id2 ≤ 562949953421311) else decide (id2 = 0))), (13, .bool (bif (hasL op).contains 109 then isNm name2 else nilS name2)), (14, .bool (bif (hasL op).contains 100 then decide (1 ≤ (dn : Int) ∧ (dn : Int) ≤ 1024) else decide ((dn : Int) = 0)))]) (fun _ => [Blk bx (.cells #[.int .i64 client, .int .i64 seq, .int .i64 ack, .int .i64 epoch, .int .i64 op, .int .i64 id, .int .i64 id2, .int .i64 off, .int .i64 len, .string path, .string name, .string name2, .slice da dn dc] 24 (0, 0))]) (fun _ => True) ?_ ?_
  · obtain ⟨b, hb⟩ := hcat 100
    rw [hb]
    (refine Zw rfl rfl rfl rfl rfl ?_; refine hx_plain rfl ?_)
    refine h_callR rfl rfl rfl rfl rfl rfl EC.out ((in_spec (hasL op) 100 (hasL_len op)).reads _) ?_
    rw [hb]
    cases b
    · (refine Zt ?_; refine hc_condF rfl ?_; refine hc_skip ?_)
      exact hq_met () trivial (.cons rfl (.cons rfl (.cons rfl (.cons rfl (.cons rfl (.cons rfl (.cons rfl (.cons rfl (.cons rfl (.cons rfl (.cons rfl (.cons rfl .nil)))))))))))) (fun _ h => h)
    · (refine Zt ?_; refine hc_condT rfl ?_; refine hc_lex ?_; refine Zf rfl rfl rfl rfl rfl ?_; refine Zh rfl rfl rfl rfl rfl rfl rfl ?_; refine hx_plain rfl ?_; refine h_len_slice rfl rfl rfl UC.out rfl rfl rfl ?_; refine hx_plain rfl ?_)
      refine h_callR rfl rfl rfl rfl rfl rfl EC.out ((within_spec _ _ _).reads _) ?_
      (refine Za rfl rfl rfl rfl rfl ?_; refine hx_nil ?_)
      exact hq_met () trivial (.cons rfl (.cons rfl (.cons rfl (.cons rfl (.cons rfl (.cons rfl (.cons rfl (.cons rfl (.cons rfl (.cons rfl (.cons rfl (.cons rfl .nil)))))))))))) (fun _ h => h)
  rintro ⟨⟩ _
  obtain ⟨c0, hc0⟩ : ∃ c, (bif (hasL op).contains 112 then decide ((spl path).2 = 0) else nilS path) = c := ⟨_, rfl⟩
  obtain ⟨c1, hc1⟩ : ∃ c, (bif (hasL op).contains 105 then decide (1 ≤ id ∧ id ≤ 562949953421311) else decide (id = 0)) = c := ⟨_, rfl⟩
  obtain ⟨c2, hc2⟩ : ∃ c, (bif (hasL op).contains 111 then decide (0 ≤ off ∧ off ≤ 69632) else decide (off = 0)) = c := ⟨_, rfl⟩
  obtain ⟨c3, hc3⟩ : ∃ c, (bif (hasL op).contains 108 then decide (1 ≤ len ∧ len ≤ most) else decide (len = 0)) = c := ⟨_, rfl⟩
  obtain ⟨c4, hc4⟩ : ∃ c, (bif (hasL op).contains 110 then (isNm name || (decide (op = 10) && nilS name)) else nilS name) = c := ⟨_, rfl⟩
  obtain ⟨c5, hc5⟩ : ∃ c, (bif (hasL op).contains 106 then decide (1 ≤ id2 ∧ id2 ≤ 562949953421311) else decide (id2 = 0)) = c := ⟨_, rfl⟩
  obtain ⟨c6, hc6⟩ : ∃ c, (bif (hasL op).contains 109 then isNm name2 else nilS name2) = c := ⟨_, rfl⟩
  obtain ⟨c7, hc7⟩ : ∃ c, (bif (hasL op).contains 100 then decide (1 ≤ (dn : Int) ∧ (dn : Int) ≤ 1024) else decide ((dn : Int) = 0)) = c := ⟨_, rfl⟩
  rw [hc0, hc1, hc2, hc3, hc4, hc5, hc6, hc7]
  clear hc0 hc1 hc2 hc3 hc4 hc5 hc6 hc7
  (refine hc_seq ?_; refine Zw rfl rfl rfl rfl rfl ?_; (iterate 7 (refine Zm rfl rfl rfl rfl rfl ?_; refine hx_gcase rfl rfl rfl (fun hc => ?_) (fun hc => ?_); refine hx_yes rfl rfl rfl ?_; refine h_move rfl rfl rfl rfl ?_; refine Zq rfl rfl rfl rfl rfl rfl ?_)); refine Zt ?_; refine hc_cond rfl (fun hc => ?_) (fun hc => ?_); refine Zx rfl rfl rfl rfl rfl ?_; refine hc_ret ?_; refine hq_ret_then ?_; rotate_left; refine hc_skip ?_; refine hq_then ?_; refine Zx rfl rfl rfl rfl rfl ?_; refine hc_ret ?_; rotate_left; (iterate 2 (refine hx_skip rfl rfl rfl rfl rfl rfl ?_; refine Zp rfl rfl rfl rfl rfl rfl ?_; refine Zt ?_; refine hc_condF rfl ?_; refine hc_skip ?_; refine hq_then ?_; refine Zx rfl rfl rfl rfl rfl ?_; refine hc_ret ?_; rotate_left; refine hx_skip rfl rfl rfl rfl rfl rfl ?_; refine Zp rfl rfl rfl rfl rfl rfl ?_; refine Zm rfl rfl rfl rfl rfl ?_)); refine hx_skip rfl rfl rfl rfl rfl rfl ?_; refine Zp rfl rfl rfl rfl rfl rfl ?_; refine Zm rfl rfl rfl rfl rfl ?_; refine hx_skip rfl rfl rfl rfl rfl rfl ?_; refine Zp rfl rfl rfl rfl rfl rfl ?_; refine Zt ?_; refine hc_condF rfl ?_; refine hc_skip ?_; refine hq_then ?_; refine Zx rfl rfl rfl rfl rfl ?_; refine hc_ret ?_; rotate_left; (iterate 3 (refine hx_skip rfl rfl rfl rfl rfl rfl ?_; refine Zp rfl rfl rfl rfl rfl rfl ?_; refine Zm rfl rfl rfl rfl rfl ?_)); refine hx_skip rfl rfl rfl rfl rfl rfl ?_; refine Zp rfl rfl rfl rfl rfl rfl ?_; refine Zt ?_; refine hc_condF rfl ?_; refine hc_skip ?_; refine hq_then ?_; refine Zx rfl rfl rfl rfl rfl ?_; refine hc_ret ?_; rotate_left; (iterate 4 (refine hx_skip rfl rfl rfl rfl rfl rfl ?_; refine Zp rfl rfl rfl rfl rfl rfl ?_; refine Zm rfl rfl rfl rfl rfl ?_)); refine hx_skip rfl rfl rfl rfl rfl rfl ?_; refine Zp rfl rfl rfl rfl rfl rfl ?_; refine Zt ?_; refine hc_condF rfl ?_; refine hc_skip ?_; refine hq_then ?_; refine Zx rfl rfl rfl rfl rfl ?_; refine hc_ret ?_; rotate_left; (iterate 5 (refine hx_skip rfl rfl rfl rfl rfl rfl ?_; refine Zp rfl rfl rfl rfl rfl rfl ?_; refine Zm rfl rfl rfl rfl rfl ?_)); refine hx_skip rfl rfl rfl rfl rfl rfl ?_; refine Zp rfl rfl rfl rfl rfl rfl ?_; refine Zt ?_; refine hc_condF rfl ?_; refine hc_skip ?_; refine hq_then ?_; refine Zx rfl rfl rfl rfl rfl ?_; refine hc_ret ?_; rotate_left; (iterate 6 (refine hx_skip rfl rfl rfl rfl rfl rfl ?_; refine Zp rfl rfl rfl rfl rfl rfl ?_; refine Zm rfl rfl rfl rfl rfl ?_)); refine hx_skip rfl rfl rfl rfl rfl rfl ?_; refine Zp rfl rfl rfl rfl rfl rfl ?_; refine Zt ?_; refine hc_condF rfl ?_; refine hc_skip ?_; refine hq_then ?_; refine Zx rfl rfl rfl rfl rfl ?_; refine hc_ret ?_; rotate_left)
  all_goals (refine hq_ret1 (.inr rfl) rfl rfl ⟨congrArg (Value.int .i64) ?_, rfl⟩ (fun _ h => h.emp); simp_all)
set_option maxHeartbeats 4000000 in
theorem rcheckRequest_reads {w : World} (r : ReqV) (hs : r.path.size ≤ 1048576) : Calls Tryz.prog 15 [Value.agg r.cs].toArray w (fun en w' => en = .returned (.int .i64 r.chk) ∧ But w w' nowhere) := by
  obtain ⟨r0, hr0⟩ : ∃ r0, r0 = r := ⟨_, rfl⟩
  rw [← hr0] at hs
  have hv : Value.agg r.cs = Value.agg r0.cs := by rw [hr0]
  obtain ⟨client, seq, ack, epoch, op, id, id2, off, len, path, name, name2, ⟨da, dn, dc⟩⟩ := r
  dsimp only [ReqV.cs, SlV.v] at hv ⊢
  rw [← hr0]
  refine reads_of Tryz.func15 rfl rfl (Nat.le_of_ble_eq_true rfl) ?_
  (refine Zl rfl ?_; (refine h_box rfl rfl rfl rfl rfl rfl (fun _ => ?_)); refine Zn rfl rfl rfl rfl rfl ?_; refine Zl rfl ?_)
  refine h_loadP (cs' := #[.int .i64 client, .int .i64 seq, .int .i64 ack, .int .i64 epoch, .int .i64 op, .int .i64 id, .int .i64 id2, .int .i64 off, .int .i64 len, .string path, .string name, .string name2, .slice da dn dc]) rfl rfl UC.out rfl IC.size .head rfl (by kernel_rfl) rfl rfl ?_
  (refine hx_plain rfl ?_)
  refine h_callR rfl rfl rfl rfl rfl rfl EC.out ((rhead_spec ⟨client, seq, ack, epoch, op, id, id2, off, len, path, name, name2, ⟨da, dn, dc⟩⟩).reads _) ?_
  rw [← hr0]
  by_cases hh : r0.head = 0
  · rw [hh]
    (refine Zn rfl rfl rfl rfl rfl ?_; refine hc_seq ?_; refine Zw rfl rfl rfl rfl rfl ?_; refine Zc rfl rfl rfl rfl rfl rfl rfl ?_; refine Zt ?_; refine hc_condF rfl ?_; refine hc_skip ?_; refine hq_then ?_; refine Zl rfl ?_)
    refine h_loadP (cs' := #[.int .i64 client, .int .i64 seq, .int .i64 ack, .int .i64 epoch, .int .i64 op, .int .i64 id, .int .i64 id2, .int .i64 off, .int .i64 len, .string path, .string name, .string name2, .slice da dn dc]) rfl rfl UC.out rfl IC.size .head rfl (by kernel_rfl) rfl rfl ?_
    (refine hx_plain rfl ?_)
    refine h_callRd (v := .int .i64 (if r0.good then 0 else 46)) rfl rfl rfl rfl rfl rfl EC.out (fun w' h => by have := rfields_reads (w := w') r0 (head_op hh) hs; rw [hr0] at this ⊢; exact this) ?_
    (refine Zn rfl rfl rfl rfl rfl ?_; refine hc_ret ?_)
    exact hq_ret1 (.inr rfl) rfl rfl ⟨by unfold ReqV.chk; rw [if_pos hh], rfl⟩ (fun _ h => h.emp)
  · obtain ⟨h0, hh0⟩ : ∃ h0, r0.head = h0 := ⟨_, rfl⟩
    have hck : r0.chk = h0 := by unfold ReqV.chk; rw [if_neg hh, hh0]
    rw [hck, hh0]
    rw [hh0] at hh
    (refine Zn rfl rfl rfl rfl rfl ?_; refine hc_seq ?_; refine Zw rfl rfl rfl rfl rfl ?_; refine Zc rfl rfl rfl rfl rfl rfl rfl ?_; refine Zt ?_; refine hc_condDT rfl (by omega) ?_; refine Zw rfl rfl rfl rfl rfl ?_; refine Zn rfl rfl rfl rfl rfl ?_; refine hc_ret ?_; refine hq_ret_then ?_)
    exact hq_ret1 (.inr rfl) rfl rfl ⟨rfl, rfl⟩ (fun _ h => h.emp)
end Go.Proofs.YtfolhmlldoepfaaGreatDoor
