import Derived.Test.YtbfmmgbfliebhaaNP
import Derived.Test.YtbfmmgbfliebhaaEngT
import Derived.Test.YtbfmmgbfliebhaaTab
namespace Go.Proofs.Ytbfmmgbfliebhaa
open Go Go.Proofs
set_option maxRecDepth 4000

theorem take_succ1 {α : Type} {l : List α} {i : Nat} (h : i < l.length) : l.take (i + 1) = l.take i ++ [l[i]] := List.take_succ_eq_append_getElem h
set_option maxHeartbeats 1000000 in
theorem bytes_makes {bs : List Int} {w : World} {v : Value} (h1 : Rd byteE w v bs) (hl : bs.length ≤ 140737488355200) :
    Makes Try.prog 19 [v] w (fun u M => M = [RowV byteE 5 u bs]) := by
  obtain ⟨a1, c1, rfl, l1, m1, k1⟩ := h1
  refine makes_of Try.func19 rfl rfl (Nat.le_of_ble_eq_true rfl) ?_
  (refine hc_seq ?_; refine hc_lex ?_; refine hx_plain rfl ?_; refine h_assign rfl rfl rfl rfl ?_; refine hx_nil ?_; refine hq_then ?_; refine hc_seq ?_; refine hc_lex ?_; refine hx_plain rfl ?_; refine h_assign rfl rfl rfl rfl ?_; refine hx_nil ?_; refine hq_then ?_; refine hc_seq ?_; refine hc_seq ?_; refine hc_lex ?_; refine hx_plain rfl ?_; refine h_assign rfl rfl rfl rfl ?_; refine hx_nil ?_; refine hq_then ?_; refine hc_block ?_)
  refine hc_cut (id := 0) (Y := Value) (fun v => [(3, v)]) (fun v => [RowV byteE 5 v bs]) (fun _ => True) ?_ ?_
  · refine hc_loop (X := Nat × Value) (fun x => [(0, .slice a1 bs.length c1), (3, x.2), (4, .int .i64 (x.1 : Int))]) (fun x => [RowV byteE 5 x.2 (bs.take x.1)]) (fun x => x.1 ≤ bs.length) (fun x => bs.length - x.1) (0, .slice none 0 0) (.cons rfl (.cons rfl (.cons rfl .nil))) (Nat.zero_le _) (fun _ h => St.rowV_nil h) ?_
    rintro ⟨i, v⟩ hi
    dsimp only at hi ⊢
    by_cases hlt : i < bs.length
    · have hps : bs ≠ [] := by
        intro e
        rw [e] at hlt
        exact absurd hlt (Nat.not_lt_zero _)
      obtain ⟨g1, o1, rfl, r1⟩ := k1.resolve_left hps
      clear k1
      have e1 : bs[((i : Nat) : Int).toNat]? = some bs[i] := List.getElem?_eq_getElem hlt
      have hlen : (bs.take i).length = i := by rw [List.length_take]; omega
      (refine hc_seq ?_; refine hc_seq ?_; refine hc_lex ?_; refine hx_plain rfl ?_; refine h_move rfl rfl rfl rfl ?_; refine hx_plain rfl ?_; refine h_move rfl rfl rfl rfl ?_; refine hx_plain rfl ?_; refine h_len_slice rfl rfl rfl UC.out rfl rfl rfl ?_; refine hx_plain rfl ?_; refine h_cmp rfl rfl rfl rfl rfl rfl ?_; refine hx_nil ?_; refine hq_then ?_; refine hc_condDT rfl (by omega) ?_; refine hc_skip ?_; refine hq_then ?_; refine hc_seq ?_; refine hc_block ?_; refine hc_lex ?_; refine hx_plain rfl ?_; refine h_move rfl rfl rfl rfl ?_; refine hx_plain rfl ?_; refine h_move rfl rfl rfl rfl ?_; refine hx_plain rfl ?_; refine h_move rfl rfl rfl rfl ?_; refine hx_plain rfl ?_; refine h_indexAddr rfl rfl rfl UC.out IC.size (by omega) (by omega) rfl rfl ?_; refine hx_plain rfl ?_; refine h_rdLoad1 rfl r1 rfl UC.out rfl (by with_reducible assumption) rfl rfl rfl ?_; refine hx_plain rfl ?_; (refine h_buildSlice rfl rfl rfl UC.out IC.size IC.zero rfl rfl (by intro v hv; simp at hv; first | (subst hv; rfl) | (rcases hv with rfl | rfl <;> rfl) | (rcases hv with rfl | rfl | rfl <;> rfl)) (by omega) rfl rfl (fun _ => ?_)); refine hx_plain rfl ?_)
      refine h_append (m := 1) (E := byteE) (T := 5) (xs := bs.take i) (ys := [bs[i]]) rfl rfl rfl rfl rfl UC.out IC.out rfl (.cons (.tail .head) (.cons .head .nil)) rfl (one_row byteE _) (by unfold maxLen; omega) (by omega) rfl rfl (fun v' _ => ?_)
      (refine hx_plain rfl ?_; refine h_assign rfl rfl rfl rfl ?_; refine hx_nil ?_; refine hq_norm_block ?_; refine hq_then ?_; refine hc_lex ?_; refine hx_plain rfl ?_; refine h_move rfl rfl rfl rfl ?_; refine hx_plain rfl ?_; refine h_arithI rfl rfl rfl rfl (by omega) rfl rfl ?_; refine hx_plain rfl ?_; refine h_assign rfl rfl rfl rfl ?_; refine hx_nil ?_)
      refine hq_round (i + 1, v') (by show bs.length - (i + 1) < bs.length - i; omega) (by show i + 1 ≤ bs.length; omega) (.cons rfl (.cons rfl (.cons rfl .nil))) (fun _ h => ?_)
      show St w nowhere [RowV byteE 5 v' (bs.take (i + 1))] _
      rw [take_succ1 hlt]
      exact h.sub (.cons .head .nil)
    · (refine hc_seq ?_; refine hc_seq ?_; refine hc_lex ?_; refine hx_plain rfl ?_; refine h_move rfl rfl rfl rfl ?_; refine hx_plain rfl ?_; refine h_move rfl rfl rfl rfl ?_; refine hx_plain rfl ?_; refine h_len_slice rfl rfl rfl UC.out rfl rfl rfl ?_; refine hx_plain rfl ?_; refine h_cmp rfl rfl rfl rfl rfl rfl ?_; refine hx_nil ?_; refine hq_then ?_; refine hc_condDF rfl (by omega) ?_; refine hc_exit ?_; refine hq_exit_then ?_; refine hq_exit_then ?_)
      refine hq_cut v trivial (.cons rfl .nil) (fun _ h => ?_)
      rw [List.take_of_length_le (by omega)] at h
      exact h
  · rintro v _
    (refine hq_exit_block ?_; refine hq_then ?_; refine hc_seq ?_; refine hc_lex ?_; refine hx_plain rfl ?_; refine h_move rfl rfl rfl rfl ?_; refine hx_plain rfl ?_; refine h_assign rfl rfl rfl rfl ?_; refine hx_nil ?_; refine hq_then ?_; refine hc_ret ?_)
    refine hq_ret1 (.inr rfl) rfl rfl rfl (fun _ h => h)
set_option maxHeartbeats 1000000 in
theorem sameBytes {xs ys : List Int} {w : World} {v1 v2 : Value} (h1 : Rd byteE w v1 xs) (h2 : Rd byteE w v2 ys) :
    Calls Try.prog 14 [v1, v2].toArray w (fun en w' => en = .returned (.bool (decide (xs = ys))) ∧ But w w' nowhere) := by
  obtain ⟨a1, c1, rfl, l1, m1, k1⟩ := h1
  obtain ⟨a2, c2, rfl, l2, m2, k2⟩ := h2
  unfold maxLen at m1 m2
  refine reads_of Try.func14 rfl rfl (Nat.le_of_ble_eq_true rfl) ?_
  by_cases hlen : xs.length = ys.length
  · by_cases hx : xs = []
    · have hy : ys = [] := List.eq_nil_of_length_eq_zero (by rw [← hlen, hx]; rfl)
      subst hx hy
      (refine hc_seq ?_; refine hc_lex ?_; refine hx_plain rfl ?_; refine h_assign rfl rfl rfl rfl ?_; refine hx_nil ?_; refine hq_then ?_; refine hc_seq ?_; refine hc_seq ?_; refine hc_lex ?_; refine hx_plain rfl ?_; refine h_move rfl rfl rfl rfl ?_; refine hx_plain rfl ?_; refine h_len_slice rfl rfl rfl UC.out rfl rfl rfl ?_; refine hx_plain rfl ?_; refine h_move rfl rfl rfl rfl ?_; refine hx_plain rfl ?_; refine h_len_slice rfl rfl rfl UC.out rfl rfl rfl ?_; refine hx_plain rfl ?_; refine h_cmp rfl rfl rfl rfl rfl rfl ?_; refine hx_nil ?_; refine hq_then ?_; refine hc_condF rfl ?_; refine hc_skip ?_; refine hq_then ?_; refine hc_seq ?_; refine hc_seq ?_; refine hc_lex ?_; refine hx_plain rfl ?_; refine h_assign rfl rfl rfl rfl ?_; refine hx_nil ?_; refine hq_then ?_; refine hc_block ?_)
      refine hc_loop (X := Nat) (fun i => [(0, .slice a1 0 c1), (5, .int .i64 (i : Int))]) (fun _ => []) (fun i => i = 0) (fun _ => 0) 0 (.cons rfl (.cons rfl .nil)) rfl (fun _ h => h) ?_
      rintro i rfl
      (refine hc_seq ?_; refine hc_seq ?_; refine hc_lex ?_; refine hx_plain rfl ?_; refine h_move rfl rfl rfl rfl ?_; refine hx_plain rfl ?_; refine h_move rfl rfl rfl rfl ?_; refine hx_plain rfl ?_; refine h_len_slice rfl rfl rfl UC.out rfl rfl rfl ?_; refine hx_plain rfl ?_; refine h_cmp rfl rfl rfl rfl rfl rfl ?_; refine hx_nil ?_; refine hq_then ?_; refine hc_condF rfl ?_; refine hc_exit ?_; refine hq_exit_then ?_; refine hq_exit_then ?_; refine hq_exit_block ?_; refine hq_then ?_; refine hc_seq ?_; refine hc_lex ?_; refine hx_plain rfl ?_; refine h_assign rfl rfl rfl rfl ?_; refine hx_nil ?_; refine hq_then ?_; refine hc_ret ?_)
      refine hq_ret1 (.inr rfl) rfl rfl ⟨by simp, rfl⟩ (fun _ h => h.emp)
    · have hy : ys ≠ [] := fun e => hx (List.eq_nil_of_length_eq_zero (by rw [hlen, e]; rfl))
      obtain ⟨g1, o1, rfl, r1⟩ := k1.resolve_left hx
      obtain ⟨g2, o2, rfl, r2⟩ := k2.resolve_left hy
      clear k1 k2 hx hy
      (refine hc_seq ?_; refine hc_lex ?_; refine hx_plain rfl ?_; refine h_assign rfl rfl rfl rfl ?_; refine hx_nil ?_; refine hq_then ?_; refine hc_seq ?_; refine hc_seq ?_; refine hc_lex ?_; refine hx_plain rfl ?_; refine h_move rfl rfl rfl rfl ?_; refine hx_plain rfl ?_; refine h_len_slice rfl rfl rfl UC.out rfl rfl rfl ?_; refine hx_plain rfl ?_; refine h_move rfl rfl rfl rfl ?_; refine hx_plain rfl ?_; refine h_len_slice rfl rfl rfl UC.out rfl rfl rfl ?_; refine hx_plain rfl ?_; refine h_cmp rfl rfl rfl rfl rfl rfl ?_; refine hx_nil ?_; refine hq_then ?_; refine hc_condDF rfl (by omega) ?_; refine hc_skip ?_; refine hq_then ?_; refine hc_seq ?_; refine hc_seq ?_; refine hc_lex ?_; refine hx_plain rfl ?_; refine h_assign rfl rfl rfl rfl ?_; refine hx_nil ?_; refine hq_then ?_; refine hc_block ?_)
      refine hc_loop (X := Nat) (fun i => [(0, .slice (some ⟨g1, o1, none⟩) xs.length c1), (1, .slice (some ⟨g2, o2, none⟩) ys.length c2), (5, .int .i64 (i : Int))]) (fun _ => []) (fun i => i ≤ xs.length ∧ ∀ j, j < i → xs[j]? = ys[j]?) (fun i => xs.length - i) 0 (.cons rfl (.cons rfl (.cons rfl .nil))) ⟨Nat.zero_le _, fun j hj => absurd hj (Nat.not_lt_zero j)⟩ (fun _ h => h) ?_
      rintro i ⟨hi, he⟩
      by_cases hlt : i < xs.length
      · have e1 : xs[((i : Nat) : Int).toNat]? = some xs[i] := List.getElem?_eq_getElem hlt
        have e2 : ys[((i : Nat) : Int).toNat]? = some (ys[i]'(by omega)) := List.getElem?_eq_getElem (by omega)
        (refine hc_seq ?_; refine hc_seq ?_; refine hc_lex ?_; refine hx_plain rfl ?_; refine h_move rfl rfl rfl rfl ?_; refine hx_plain rfl ?_; refine h_move rfl rfl rfl rfl ?_; refine hx_plain rfl ?_; refine h_len_slice rfl rfl rfl UC.out rfl rfl rfl ?_; refine hx_plain rfl ?_; refine h_cmp rfl rfl rfl rfl rfl rfl ?_; refine hx_nil ?_; refine hq_then ?_; refine hc_condDT rfl (by omega) ?_; refine hc_skip ?_; refine hq_then ?_; refine hc_seq ?_; refine hc_block ?_; refine hc_seq ?_; refine hc_draw0 (by kernel_rfl) (by kernel_rfl) ?_; refine hx_plain rfl ?_; refine h_move rfl rfl rfl rfl ?_; refine hx_plain rfl ?_; refine h_move rfl rfl rfl rfl ?_; refine hx_plain rfl ?_; refine h_indexAddr rfl rfl rfl UC.out IC.size (by omega) (by omega) rfl rfl ?_; refine hx_plain rfl ?_; refine h_rdLoad1 rfl r1 rfl UC.out rfl (by with_reducible assumption) rfl rfl rfl ?_; refine hx_plain rfl ?_; refine h_move rfl rfl rfl rfl ?_; refine hx_plain rfl ?_; refine h_move rfl rfl rfl rfl ?_; refine hx_plain rfl ?_; refine h_indexAddr rfl rfl rfl UC.out IC.size (by omega) (by omega) rfl rfl ?_; refine hx_plain rfl ?_; refine h_rdLoad1 rfl r2 rfl UC.out rfl (by with_reducible assumption) rfl rfl rfl ?_; refine hx_plain rfl ?_; refine h_cmp rfl rfl rfl rfl rfl rfl ?_; refine hx_nil ?_; refine hq_then ?_; refine hc_condD rfl (fun hc => ?_) (fun hc => ?_); refine hc_seq ?_; refine hc_lex ?_; refine hx_plain rfl ?_; refine h_assign rfl rfl rfl rfl ?_; refine hx_nil ?_; refine hq_then ?_; refine hc_ret ?_; refine hq_ret_block ?_; refine hq_ret_then ?_; refine hq_ret_then ?_; refine hq_ret_block ?_; refine hq_ret_then ?_; rotate_left; refine hc_skip ?_; refine hq_norm_block ?_; refine hq_then ?_; refine hc_lex ?_; refine hx_plain rfl ?_; refine h_move rfl rfl rfl rfl ?_; refine hx_plain rfl ?_; refine h_arithI rfl rfl rfl rfl (by omega) rfl rfl ?_; refine hx_plain rfl ?_; refine h_assign rfl rfl rfl rfl ?_; refine hx_nil ?_; rotate_left)
        · refine hq_ret1 (.inr rfl) rfl rfl ⟨?_, rfl⟩ (fun _ h => h.emp)
          rw [decide_eq_false (fun e => hc (by simp only [e]))]
        · have hc' : xs[i] = ys[i]'(by omega) := by simpa using hc
          refine hq_round (i + 1) (by omega) ⟨by omega, fun j hj => ?_⟩ (.cons rfl (.cons rfl (.cons (by show some _ = some _; congr 2) .nil))) (fun _ h => h)
          by_cases e : j = i
          · subst e
            rw [List.getElem?_eq_getElem hlt, List.getElem?_eq_getElem (by omega), hc']
          · exact he j (by omega)
      · (refine hc_seq ?_; refine hc_seq ?_; refine hc_lex ?_; refine hx_plain rfl ?_; refine h_move rfl rfl rfl rfl ?_; refine hx_plain rfl ?_; refine h_move rfl rfl rfl rfl ?_; refine hx_plain rfl ?_; refine h_len_slice rfl rfl rfl UC.out rfl rfl rfl ?_; refine hx_plain rfl ?_; refine h_cmp rfl rfl rfl rfl rfl rfl ?_; refine hx_nil ?_; refine hq_then ?_; refine hc_condDF rfl (by omega) ?_; refine hc_exit ?_; refine hq_exit_then ?_; refine hq_exit_then ?_; refine hq_exit_block ?_; refine hq_then ?_; refine hc_seq ?_; refine hc_lex ?_; refine hx_plain rfl ?_; refine h_assign rfl rfl rfl rfl ?_; refine hx_nil ?_; refine hq_then ?_; refine hc_ret ?_)
        refine hq_ret1 (.inr rfl) rfl rfl ⟨?_, rfl⟩ (fun _ h => h.emp)
        have : xs = ys := List.ext_getElem? (fun j => by
          rcases Nat.lt_or_ge j i with hj | hj
          · exact he j hj
          · rw [List.getElem?_eq_none (by omega), List.getElem?_eq_none (by omega)])
        rw [decide_eq_true this]
  · (refine hc_seq ?_; refine hc_lex ?_; refine hx_plain rfl ?_; refine h_assign rfl rfl rfl rfl ?_; refine hx_nil ?_; refine hq_then ?_; refine hc_seq ?_; refine hc_seq ?_; refine hc_lex ?_; refine hx_plain rfl ?_; refine h_move rfl rfl rfl rfl ?_; refine hx_plain rfl ?_; refine h_len_slice rfl rfl rfl UC.out rfl rfl rfl ?_; refine hx_plain rfl ?_; refine h_move rfl rfl rfl rfl ?_; refine hx_plain rfl ?_; refine h_len_slice rfl rfl rfl UC.out rfl rfl rfl ?_; refine hx_plain rfl ?_; refine h_cmp rfl rfl rfl rfl rfl rfl ?_; refine hx_nil ?_; refine hq_then ?_; refine hc_condDT rfl (by omega) ?_; refine hc_seq ?_; refine hc_lex ?_; refine hx_plain rfl ?_; refine h_assign rfl rfl rfl rfl ?_; refine hx_nil ?_; refine hq_then ?_; refine hc_ret ?_; refine hq_ret_then ?_)
    refine hq_ret1 (.inr rfl) rfl rfl ⟨?_, rfl⟩ (fun _ h => h.emp)
    rw [decide_eq_false (fun e => hlen (by rw [e]))]
/-- slices.Clone of bytes. -/
theorem clone_makes {bs : List Int} {w : World} {v : Value} (h1 : Rd byteE w v bs) (hl : bs.length ≤ 140737488355200) :
    Makes Try.prog 33 [v] w (fun u M => M = [RowV byteE 5 u bs]) := by
  obtain ⟨a1, c1, rfl, l1, m1, k1⟩ := id h1
  refine makes_of Try.func33 rfl rfl (Nat.le_of_ble_eq_true rfl) ?_
  (refine hc_seq ?_; refine hc_lex ?_; refine hx_plain rfl ?_; refine h_assign rfl rfl rfl rfl ?_; refine hx_nil ?_; refine hq_then ?_; refine hc_seq ?_; refine hc_seq ?_; refine hc_lex ?_; refine hx_plain rfl ?_; refine h_move rfl rfl rfl rfl ?_; refine hx_plain rfl ?_)
  refine h_eqNilS rfl rfl rfl UC.out rfl rfl ?_
  (refine hx_nil ?_; refine hq_then ?_; refine hc_cond rfl (fun hc => ?_) (fun hc => ?_); refine hc_seq ?_; refine hc_lex ?_; refine hx_plain rfl ?_; refine h_assign rfl rfl rfl rfl ?_; refine hx_nil ?_; refine hq_then ?_; refine hc_ret ?_; refine hq_ret_then ?_; rotate_left; refine hc_skip ?_; refine hq_then ?_; refine hc_seq ?_; refine hc_lex ?_; refine hx_plain rfl ?_; rotate_left)
  · have : bs = [] := by
      rcases k1 with e | ⟨g, off, rfl, _⟩
      · exact e
      · cases hc
    subst this
    exact hq_ret1 (.inr rfl) rfl rfl rfl (fun _ h => St.rowV_nil h)
  refine h_buildSlice rfl rfl rfl UC.out IC.size IC.zero rfl rfl (fun v hv => by cases hv) (by omega) rfl rfl (fun b => ?_)
  (refine hx_plain rfl ?_; refine h_move rfl rfl rfl rfl ?_; refine hx_plain rfl ?_)
  by_cases h0 : bs = []
  · subst h0
    refine h_appendNone rfl rfl rfl rfl UC.out IC.size (Nat.le_refl _) rfl rfl ?_
    (refine hx_plain rfl ?_; refine h_assign rfl rfl rfl rfl ?_; refine hx_nil ?_; refine hq_then ?_; refine hc_ret ?_)
    exact hq_ret1 (.inr rfl) rfl rfl rfl (fun _ h => h.rowV_none)
  · refine hx1_conv rfl rfl (C' := St w nowhere [RowV byteE 5 (.slice (some ⟨b, 0, none⟩) 0 0) []]) (fun _ h => h.rowV_none) ?_
    refine h_appendRd (E := byteE) (T := 5) (xs := []) (ys := bs) rfl rfl rfl rfl rfl UC.out IC.out rfl .head (fun w' h => h.rd h1) h0 (by rw [List.length_nil]; unfold maxLen at *; omega) (by rw [List.length_nil]; omega) rfl rfl (fun v' => ?_)
    (refine hx_plain rfl ?_; refine h_assign rfl rfl rfl rfl ?_; refine hx_nil ?_; refine hq_then ?_; refine hc_ret ?_)
    exact hq_ret1 (.inr rfl) rfl rfl rfl (fun _ h => h)
theorem num_spec (a : Int) : Spec0 Try.prog 15 [.int .i64 a] (.int .i64 a) := by
  refine spec_of Try.func15 rfl rfl (Nat.le_of_ble_eq_true rfl) (fun w F => ?_)
  (refine hc_seq ?_; refine hc_lex ?_; refine hx_plain rfl ?_; refine h_assign rfl rfl rfl rfl ?_; refine hx_nil ?_; refine hq_then ?_; refine hc_seq ?_; refine hc_lex ?_; refine hx_plain rfl ?_; refine h_move rfl rfl rfl rfl ?_; refine hx_plain rfl ?_; refine h_assign rfl rfl rfl rfl ?_; refine hx_nil ?_; refine hq_then ?_; refine hc_ret ?_)
  exact hq_ret1 (.inr rfl) rfl rfl ⟨rfl, rfl⟩ (fun _ h => h.emp)
theorem isNaN_spec (a : Int) : Spec0 Try.prog 45 [.int .i64 a] (.bool false) := by
  refine spec_of Try.func45 rfl rfl (Nat.le_of_ble_eq_true rfl) (fun w F => ?_)
  (refine hc_seq ?_; refine hc_lex ?_; refine hx_plain rfl ?_; refine h_assign rfl rfl rfl rfl ?_; refine hx_nil ?_; refine hq_then ?_; refine hc_seq ?_; refine hc_lex ?_; refine hx_plain rfl ?_; refine h_move rfl rfl rfl rfl ?_; refine hx_plain rfl ?_; refine h_move rfl rfl rfl rfl ?_; refine hx_plain rfl ?_; refine h_cmp rfl rfl rfl rfl rfl rfl ?_; refine hx_plain rfl ?_; refine h_assign rfl rfl rfl rfl ?_; refine hx_nil ?_; refine hq_then ?_; refine hc_ret ?_)
  exact hq_ret1 (.inr rfl) rfl rfl ⟨by simp, rfl⟩ (fun _ h => h.emp)
/-- cmp.Compare. -/
def cmpI (a b : Int) : Int := if a < b then -1 else if a > b then 1 else 0
theorem compare_spec (a b : Int) : Spec0 Try.prog 36 [.int .i64 a, .int .i64 b] (.int .i64 (cmpI a b)) := by
  refine spec_of Try.func36 rfl rfl (Nat.le_of_ble_eq_true rfl) (fun w F => ?_)
  (refine hc_seq ?_; refine hc_lex ?_; refine hx_plain rfl ?_; refine h_assign rfl rfl rfl rfl ?_; refine hx_nil ?_; refine hq_then ?_; refine hc_seq ?_; refine hc_lex ?_; refine hx_plain rfl ?_; refine h_move rfl rfl rfl rfl ?_; refine hx_plain rfl ?_)
  refine h_callR rfl rfl rfl rfl rfl rfl EC.out ((isNaN_spec a).reads _) ?_
  (refine hx_plain rfl ?_; refine h_assign rfl rfl rfl rfl ?_; refine hx_nil ?_; refine hq_then ?_; refine hc_seq ?_; refine hc_lex ?_; refine hx_plain rfl ?_; refine h_move rfl rfl rfl rfl ?_; refine hx_plain rfl ?_)
  refine h_callR rfl rfl rfl rfl rfl rfl EC.out ((isNaN_spec b).reads _) ?_
  (refine hx_plain rfl ?_; refine h_assign rfl rfl rfl rfl ?_; refine hx_nil ?_; refine hq_then ?_; refine hc_seq ?_; refine hc_seq ?_; refine hc_lex ?_; refine hx_plain rfl ?_; refine h_move rfl rfl rfl rfl ?_; refine hx_nil ?_; refine hq_then ?_; refine hc_condF rfl ?_; refine hc_skip ?_; refine hq_then ?_; refine hc_seq ?_; refine hc_seq ?_; refine hc_lex ?_; refine hx_plain rfl ?_; refine h_move rfl rfl rfl rfl ?_; refine hx_nil ?_; refine hq_then ?_; refine hc_condF rfl ?_; refine hc_skip ?_; refine hq_then ?_; refine hc_seq ?_; refine hc_seq ?_; refine hc_lex ?_; refine hx_plain rfl ?_; refine h_move rfl rfl rfl rfl ?_; refine hx_plain rfl ?_; refine h_move rfl rfl rfl rfl ?_; refine hx_plain rfl ?_; refine h_cmp rfl rfl rfl rfl rfl rfl ?_; refine hx_nil ?_; refine hq_then ?_; refine hc_condD rfl (fun hc => ?_) (fun hc => ?_); refine hc_seq ?_; refine hc_lex ?_; refine hx_plain rfl ?_; refine h_assign rfl rfl rfl rfl ?_; refine hx_nil ?_; refine hq_then ?_; refine hc_ret ?_; refine hq_ret_then ?_; rotate_left; refine hc_skip ?_; refine hq_then ?_; refine hc_seq ?_; refine hc_seq ?_; refine hc_lex ?_; refine hx_plain rfl ?_; refine h_move rfl rfl rfl rfl ?_; refine hx_plain rfl ?_; refine h_move rfl rfl rfl rfl ?_; refine hx_plain rfl ?_; refine h_cmp rfl rfl rfl rfl rfl rfl ?_; refine hx_nil ?_; refine hq_then ?_; refine hc_condD rfl (fun hc => ?_) (fun hc => ?_); refine hc_seq ?_; refine hc_lex ?_; refine hx_plain rfl ?_; refine h_assign rfl rfl rfl rfl ?_; refine hx_nil ?_; refine hq_then ?_; refine hc_ret ?_; refine hq_ret_then ?_; rotate_left; refine hc_skip ?_; refine hq_then ?_; refine hc_seq ?_; refine hc_lex ?_; refine hx_plain rfl ?_; refine h_assign rfl rfl rfl rfl ?_; refine hx_nil ?_; refine hq_then ?_; refine hc_ret ?_; rotate_left)
  · exact hq_ret1 (.inr rfl) rfl rfl ⟨by unfold cmpI; rw [if_pos hc], rfl⟩ (fun _ h => h.emp)
  · rename_i h1
    exact hq_ret1 (.inr rfl) rfl rfl ⟨by unfold cmpI; rw [if_neg h1, if_pos hc], rfl⟩ (fun _ h => h.emp)
  · rename_i h1
    exact hq_ret1 (.inr rfl) rfl rfl ⟨by unfold cmpI; rw [if_neg h1, if_neg hc], rfl⟩ (fun _ h => h.emp)
end Go.Proofs.Ytbfmmgbfliebhaa
