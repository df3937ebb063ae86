import Derived.Test.YtjnnlfeohbidhaaDoorBp1
namespace Go.Proofs.YtjnnlfeohbidhaaDoor
open Go Go.Proofs
set_option maxRecDepth 4000

set_option maxHeartbeats 1000000 in
theorem putText_makes {bs : List Int} {s : ByteArray} {w : World} {v : Value} (h1 : Rd byteE w v bs) (hl : bs.length + s.size ≤ 140737488355300) (hs : s.size ≤ 140737488355200) :
    Makes Tryd.prog 39 [v, .string s] w (fun u M => M = [RowV byteE 5 u (bs ++ fieldB (strBytes s))]) := by
  have hsl := strBytes_len s
  refine makes_of Tryd.func39 rfl rfl (Nat.le_of_ble_eq_true rfl) ?_
  (refine hc_seq ?_; refine hc_lex ?_; refine hx_plain rfl ?_; refine h_assign rfl rfl rfl rfl ?_; refine hx_nil ?_; refine hq_then ?_; refine hc_seq ?_; refine hc_lex ?_; refine hx_plain rfl ?_; refine h_move rfl rfl rfl rfl ?_; refine hx_plain rfl ?_; refine h_move rfl rfl rfl rfl ?_; refine hx_plain rfl ?_)
  refine h_ofString rfl rfl rfl UC.out UC.out UC.out (by unfold maxLen; omega) rfl rfl (fun b cap => ?_)
  (refine hx_plain rfl ?_)
  refine h_callW (post := fun u M => M = [RowV byteE 5 u (bs ++ fieldB (strBytes s))]) rfl rfl rfl rfl rfl rfl rfl rfl EC.out (fun w' h => putBytes_makes (h.rd h1) (h.rdBytB .head) (by omega) (by omega)) ?_
  rintro u M rfl
  (refine hx_plain rfl ?_; refine h_assign rfl rfl rfl rfl ?_; refine hx_nil ?_; refine hq_then ?_; refine hc_ret ?_)
  exact hq_ret1 (.inr rfl) rfl rfl rfl (fun _ h => h.sub (.cons .head .nil))

/-! ### The document's -/
theorem pow8 (m : Nat) : (2 : Int) ^ (8 * (m + 1)) = 2 ^ (8 * m) * 256 := by
  rw [Nat.mul_add, Int.pow_add]
  rfl
theorem set_mid {α : Type} (l1 l2 : List α) (a b : α) : (l1 ++ a :: l2).set l1.length b = l1 ++ b :: l2 := by
  rw [List.set_append_right _ _ (Nat.le_refl _), Nat.sub_self]
  rfl
set_option maxHeartbeats 1000000 in
theorem digits_makes {w : World} (x : Int) (m : Nat) (hm : 1 ≤ m ∧ m ≤ 8) (hx : 0 ≤ x ∧ x ≤ 18446744073709551615) :
    Makes Tryd.prog 65 [.int .u64 x, .int .i64 (m : Int)] w (fun u M => M = [RowV byteE 5 u (dg x m)]) := by
  refine makes_of Tryd.func65 rfl rfl (Nat.le_of_ble_eq_true rfl) ?_
  (refine hc_seq ?_; refine hc_lex ?_; refine hx_plain rfl ?_; refine h_assign rfl rfl rfl rfl ?_; refine hx_nil ?_; refine hq_then ?_; refine hc_seq ?_; refine hc_lex ?_; refine hx_plain rfl ?_; refine h_move rfl rfl rfl rfl ?_; refine hx_plain rfl ?_)
  refine h_callW (post := fun u M => M = [RowV byteE 5 u (List.replicate m 0)]) rfl rfl rfl rfl rfl rfl rfl rfl EC.out (fun w' h => zeros_makes m (by omega)) ?_
  rintro u M rfl
  (refine hx_plain rfl ?_; refine h_assign rfl rfl rfl rfl ?_; refine hx_nil ?_; refine hq_then ?_; refine hc_seq ?_; refine hc_seq ?_; refine hc_lex ?_; refine hx_plain rfl ?_; refine h_move rfl rfl rfl rfl ?_; refine hx_plain rfl ?_; refine h_arithI rfl rfl rfl rfl (by omega) rfl rfl ?_; refine hx_plain rfl ?_; refine h_assign rfl rfl rfl rfl ?_; refine hx_nil ?_; refine hq_then ?_; refine hc_block ?_)
  refine hc_rowV .head (fun _ h => ?_) (fun g cap h => ?_)
  · exfalso
    have := congrArg List.length h
    rw [List.length_replicate] at this
    simp at this
    omega
  subst h
  rw [List.length_replicate]
  refine hc_cut (id := 0) (Y := Unit) (fun _ => [(5, .slice (some ⟨g, 0, none⟩) m cap)]) (fun _ => [Row byteE 5 g cap (dg x m)]) (fun _ => True) ?_ ?_
  · refine hc_loop (X := Nat) (fun j => [(0, .int .u64 (x / 2 ^ (8 * (m - j)))), (5, .slice (some ⟨g, 0, none⟩) m cap), (6, .int .i64 ((j : Int) - 1))]) (fun j => [Row byteE 5 g cap (List.replicate j 0 ++ dg x (m - j))]) (fun j => j ≤ m) (fun j => j) m (.cons (by rw [Nat.sub_self]; simp; rfl) (.cons rfl (.cons rfl .nil))) (Nat.le_refl _) (fun _ h => by rw [Nat.sub_self, dg, List.append_nil]; exact h) ?_
    intro j hj
    cases j with
    | zero =>
      (refine hc_seq ?_; refine hc_seq ?_; refine hc_lex ?_; refine hx_plain rfl ?_; refine h_move rfl rfl rfl rfl ?_; refine hx_plain rfl ?_; refine h_cmp rfl rfl rfl rfl rfl rfl ?_; refine hx_nil ?_; refine hq_then ?_; refine hc_condF rfl ?_; refine hc_exit ?_; refine hq_exit_then ?_; refine hq_exit_then ?_)
      exact hq_cut () trivial (.cons rfl .nil) (fun _ h => h)
    | succ j =>
      have e1 : (((j + 1 : Nat) : Int) - 1) = (j : Int) := by omega
      rw [e1]
      have hp : (0 : Int) < 2 ^ (8 * (m - (j + 1))) := Int.pow_pos (by decide)
      have hq0 : 0 ≤ x / 2 ^ (8 * (m - (j + 1))) := Int.ediv_nonneg hx.1 (by omega)
      have hq1 : x / 2 ^ (8 * (m - (j + 1))) ≤ x := Int.ediv_le_self _ hx.1
      have hmj : m - j = m - (j + 1) + 1 := by omega
      have hg : (List.replicate (j + 1) (0 : Int) ++ dg x (m - (j + 1)))[j]? = some 0 := by
        rw [List.getElem?_append_left (by rw [List.length_replicate]; omega), List.getElem?_replicate, if_pos (by omega)]
      (refine hc_seq ?_; refine hc_seq ?_; refine hc_lex ?_; refine hx_plain rfl ?_; refine h_move rfl rfl rfl rfl ?_; refine hx_plain rfl ?_; refine h_cmp rfl rfl rfl rfl rfl rfl ?_; refine hx_nil ?_; refine hq_then ?_; refine hc_condT rfl ?_; refine hc_skip ?_; refine hq_then ?_; refine hc_seq ?_; refine hc_block ?_; refine hc_seq ?_; refine hc_lex ?_; refine hx_plain rfl ?_; refine h_move rfl rfl rfl rfl ?_; refine hx_plain rfl ?_; refine h_move rfl rfl rfl rfl ?_; refine hx_plain rfl ?_; refine h_move rfl rfl rfl rfl ?_; refine hx_plain rfl ?_)
      refine h_remU rfl rfl rfl ⟨hq0, by decide⟩ rfl rfl ?_
      (refine hx_plain rfl ?_; refine h_convInt rfl rfl UC.out UC.out rfl rfl ?_; refine hx_plain rfl ?_; refine h_rowAddr rfl rfl rfl UC.out IC.size (by omega) (by omega) rfl rfl ?_; refine hx_plain rfl ?_)
      refine h_rowStoreN (i := j) (q := (0 : Int)) (IntKind.u8.wrap (x / 2 ^ (8 * (m - (j + 1))) % 256)) rfl rfl rfl .head rfl rfl rfl IC.size hg rfl rfl ?_
      (refine hx_nil ?_; refine hq_then ?_; refine hc_lex ?_; refine hx_plain rfl ?_; refine h_move rfl rfl rfl rfl ?_; refine hx_plain rfl ?_)
      refine h_quoU rfl rfl rfl ⟨hq0, by omega, by decide⟩ rfl rfl ?_
      (refine hx_plain rfl ?_; refine h_assign rfl rfl rfl rfl ?_; refine hx_nil ?_; refine hq_norm_block ?_; refine hq_then ?_; refine hc_lex ?_; refine hx_plain rfl ?_; refine h_move rfl rfl rfl rfl ?_; refine hx_plain rfl ?_; refine h_arithI rfl rfl rfl rfl (by omega) rfl rfl ?_; refine hx_plain rfl ?_; refine h_assign rfl rfl rfl rfl ?_; refine hx_nil ?_)
      refine hq_round j (by omega) (by omega) (.cons ?_ (.cons rfl (.cons rfl .nil))) (fun _ h => ?_)
      · show some (Value.int .u64 (x / 2 ^ (8 * (m - (j + 1))) / 256)) = some (Value.int .u64 (x / 2 ^ (8 * (m - j))))
        rw [hmj, pow8, Int.ediv_ediv_of_nonneg (by omega)]
      · have e3 : (List.replicate (j + 1) (0 : Int) ++ dg x (m - (j + 1))).set j (IntKind.u8.wrap (x / 2 ^ (8 * (m - (j + 1))) % 256)) = List.replicate j 0 ++ dg x (m - j) := by
          rw [List.replicate_succ', List.append_assoc, List.singleton_append]
          have := set_mid (List.replicate j (0 : Int)) (dg x (m - (j + 1))) 0 (IntKind.u8.wrap (x / 2 ^ (8 * (m - (j + 1))) % 256))
          rw [List.length_replicate] at this
          rw [this, hmj, dg, wrap8_eq, wrap8_eq, Int.emod_emod]
        rw [e3] at h
        exact h
  · rintro ⟨⟩ _
    (refine hq_exit_block ?_; refine hq_then ?_; refine hc_seq ?_; refine hc_lex ?_; refine hx_plain rfl ?_; refine h_move rfl rfl rfl rfl ?_; refine hx_plain rfl ?_; refine h_assign rfl rfl rfl rfl ?_; refine hx_nil ?_; refine hq_then ?_; refine hc_ret ?_)
    refine hq_ret1 (.inr rfl) rfl rfl rfl (fun _ h => ?_)
    have h' := h.rowV_mk
    rw [dg_len] at h'
    exact h'
theorem wrapU_range (x : Int) : 0 ≤ IntKind.u64.wrap x ∧ IntKind.u64.wrap x ≤ 18446744073709551615 := by
  rw [wrapU_eq]
  omega
set_option maxHeartbeats 1000000 in
theorem rput32_makes {bs : List Int} {w : World} {v : Value} (x : Int) (h1 : Rd byteE w v bs) (hl : bs.length ≤ 140737488355100) :
    Makes Tryd.prog 41 [v, .int .i64 x] w (fun u M => M = [RowV byteE 5 u (bs ++ dg (IntKind.u64.wrap x) 4)]) := by
  refine makes_of Tryd.func41 rfl rfl (Nat.le_of_ble_eq_true rfl) ?_
  (refine hc_seq ?_; refine hc_lex ?_; refine hx_plain rfl ?_; refine h_assign rfl rfl rfl rfl ?_; refine hx_nil ?_; refine hq_then ?_; refine hc_seq ?_; refine hc_lex ?_; refine hx_plain rfl ?_; refine h_move rfl rfl rfl rfl ?_; refine hx_plain rfl ?_; refine h_move rfl rfl rfl rfl ?_; refine hx_plain rfl ?_; refine h_convInt rfl rfl UC.out UC.out rfl rfl ?_; refine hx_plain rfl ?_)
  refine h_callW (post := fun u M => M = [RowV byteE 5 u (dg (IntKind.u64.wrap x) 4)]) rfl rfl rfl rfl rfl rfl rfl rfl EC.out (fun w' h => digits_makes (IntKind.u64.wrap x) 4 (by omega) (wrapU_range x)) ?_
  rintro u M rfl
  (refine hx_plain rfl ?_)
  refine h_callW (post := fun u M => M = [RowV byteE 5 u (bs ++ dg (IntKind.u64.wrap x) 4)]) rfl rfl rfl rfl rfl rfl rfl rfl EC.out (fun w' h => join_makes (h.rd h1) (h.rdRowV .head) (by rw [dg_len]; omega)) ?_
  rintro u M rfl
  (refine hx_plain rfl ?_; refine h_assign rfl rfl rfl rfl ?_; refine hx_nil ?_; refine hq_then ?_; refine hc_ret ?_)
  exact hq_ret1 (.inr rfl) rfl rfl rfl (fun _ h => h.sub (.cons .head .nil))
set_option maxHeartbeats 1000000 in
theorem rput64_makes {bs : List Int} {w : World} {v : Value} (x : Int) (h1 : Rd byteE w v bs) (hl : bs.length ≤ 140737488355100) :
    Makes Tryd.prog 42 [v, .int .i64 x] w (fun u M => M = [RowV byteE 5 u (bs ++ dg (IntKind.u64.wrap x) 8)]) := by
  refine makes_of Tryd.func42 rfl rfl (Nat.le_of_ble_eq_true rfl) ?_
  (refine hc_seq ?_; refine hc_lex ?_; refine hx_plain rfl ?_; refine h_assign rfl rfl rfl rfl ?_; refine hx_nil ?_; refine hq_then ?_; refine hc_seq ?_; refine hc_lex ?_; refine hx_plain rfl ?_; refine h_move rfl rfl rfl rfl ?_; refine hx_plain rfl ?_; refine h_move rfl rfl rfl rfl ?_; refine hx_plain rfl ?_; refine h_convInt rfl rfl UC.out UC.out rfl rfl ?_; refine hx_plain rfl ?_)
  refine h_callW (post := fun u M => M = [RowV byteE 5 u (dg (IntKind.u64.wrap x) 8)]) rfl rfl rfl rfl rfl rfl rfl rfl EC.out (fun w' h => digits_makes (IntKind.u64.wrap x) 8 (by omega) (wrapU_range x)) ?_
  rintro u M rfl
  (refine hx_plain rfl ?_)
  refine h_callW (post := fun u M => M = [RowV byteE 5 u (bs ++ dg (IntKind.u64.wrap x) 8)]) rfl rfl rfl rfl rfl rfl rfl rfl EC.out (fun w' h => join_makes (h.rd h1) (h.rdRowV .head) (by rw [dg_len]; omega)) ?_
  rintro u M rfl
  (refine hx_plain rfl ?_; refine h_assign rfl rfl rfl rfl ?_; refine hx_nil ?_; refine hq_then ?_; refine hc_ret ?_)
  exact hq_ret1 (.inr rfl) rfl rfl rfl (fun _ h => h.sub (.cons .head .nil))
set_option maxHeartbeats 1000000 in
theorem rputSum_makes {bs : List Int} {w : World} {v : Value} (x : Int) (hx : 0 ≤ x ∧ x ≤ 18446744073709551615) (h1 : Rd byteE w v bs) (hl : bs.length ≤ 140737488355100) :
    Makes Tryd.prog 43 [v, .int .u64 x] w (fun u M => M = [RowV byteE 5 u (bs ++ dg x 8)]) := by
  refine makes_of Tryd.func43 rfl rfl (Nat.le_of_ble_eq_true rfl) ?_
  (refine hc_seq ?_; refine hc_lex ?_; refine hx_plain rfl ?_; refine h_assign rfl rfl rfl rfl ?_; refine hx_nil ?_; refine hq_then ?_; refine hc_seq ?_; refine hc_lex ?_; refine hx_plain rfl ?_; refine h_move rfl rfl rfl rfl ?_; refine hx_plain rfl ?_; refine h_move rfl rfl rfl rfl ?_; refine hx_plain rfl ?_)
  refine h_callW (post := fun u M => M = [RowV byteE 5 u (dg x 8)]) rfl rfl rfl rfl rfl rfl rfl rfl EC.out (fun w' h => digits_makes x 8 (by omega) hx) ?_
  rintro u M rfl
  (refine hx_plain rfl ?_)
  refine h_callW (post := fun u M => M = [RowV byteE 5 u (bs ++ dg x 8)]) rfl rfl rfl rfl rfl rfl rfl rfl EC.out (fun w' h => join_makes (h.rd h1) (h.rdRowV .head) (by rw [dg_len]; omega)) ?_
  rintro u M rfl
  (refine hx_plain rfl ?_; refine h_assign rfl rfl rfl rfl ?_; refine hx_nil ?_; refine hq_then ?_; refine hc_ret ?_)
  exact hq_ret1 (.inr rfl) rfl rfl rfl (fun _ h => h.sub (.cons .head .nil))
set_option maxHeartbeats 1000000 in
theorem rputBytes_makes {bs ds : List Int} {w : World} {v vd : Value} (h1 : Rd byteE w v bs) (h2 : Rd byteE w vd ds) (hl : bs.length + ds.length ≤ 140737488355000) :
    Makes Tryd.prog 45 [v, vd] w (fun u M => M = [RowV byteE 5 u (bs ++ fieldB ds)]) := by
  obtain ⟨a2, c2, e2, l2, m2, k2⟩ := id h2
  subst e2
  refine makes_of Tryd.func45 rfl rfl (Nat.le_of_ble_eq_true rfl) ?_
  (refine hc_seq ?_; refine hc_lex ?_; refine hx_plain rfl ?_; refine h_assign rfl rfl rfl rfl ?_; refine hx_nil ?_; refine hq_then ?_; refine hc_seq ?_; refine hc_lex ?_; refine hx_plain rfl ?_; refine h_move rfl rfl rfl rfl ?_; refine hx_plain rfl ?_; refine h_move rfl rfl rfl rfl ?_; refine hx_plain rfl ?_; refine h_len_slice rfl rfl rfl UC.out rfl rfl rfl ?_; refine hx_plain rfl ?_)
  refine h_callW (post := fun u M => M = [RowV byteE 5 u (bs ++ dg (IntKind.u64.wrap (ds.length : Int)) 4)]) rfl rfl rfl rfl rfl rfl rfl rfl EC.out (fun w' h => rput32_makes (ds.length : Int) (h.rd h1) (by omega)) ?_
  rintro u M rfl
  (refine hx_plain rfl ?_; refine h_assign rfl rfl rfl rfl ?_; refine hx_nil ?_; refine hq_then ?_; refine hc_seq ?_; refine hc_lex ?_; refine hx_plain rfl ?_; refine h_move rfl rfl rfl rfl ?_; refine hx_plain rfl ?_; refine h_move rfl rfl rfl rfl ?_; refine hx_plain rfl ?_)
  refine h_callW (post := fun u M => M = [RowV byteE 5 u (bs ++ dg (IntKind.u64.wrap (ds.length : Int)) 4 ++ ds)]) rfl rfl rfl rfl rfl rfl rfl rfl EC.out (fun w' h => join_makes (h.rdRowV .head) (h.rd h2) (by rw [List.length_append, dg_len]; omega)) ?_
  rintro v0 M rfl
  (refine hx_plain rfl ?_; refine h_assign rfl rfl rfl rfl ?_; refine hx_nil ?_; refine hq_then ?_; refine hc_seq ?_; refine hc_seq ?_; refine hc_lex ?_; refine hx_plain rfl ?_; refine h_move rfl rfl rfl rfl ?_; refine hx_plain rfl ?_; refine h_len_slice rfl rfl rfl UC.out rfl rfl rfl ?_; refine hx_plain rfl ?_; refine h_assign rfl rfl rfl rfl ?_; refine hx_nil ?_; refine hq_then ?_; refine hc_block ?_)
  obtain ⟨xs, hxs⟩ : ∃ xs, bs ++ dg (IntKind.u64.wrap (ds.length : Int)) 4 ++ ds = xs := ⟨_, rfl⟩
  have hxl : xs.length = bs.length + 4 + ds.length := by rw [← hxs]; simp only [List.length_append, dg_len]
  have e5 : bs ++ fieldB ds = xs ++ List.replicate (padN ds.length) 0 := by rw [← hxs]; unfold fieldB; simp only [List.append_assoc]
  rw [hxs, e5]
  clear hxs
  have hpad := padN_lt ds.length
  have hmod : ∀ j, j ≤ padN ds.length → ((ds.length + j) % 4 = 0 ↔ j = padN ds.length) := by
    intro j hj
    unfold padN at *
    omega
  refine hc_cut (id := 0) (Y := Value) (fun v => [(5, v)]) (fun v => [RowV byteE 5 v (xs ++ List.replicate (padN ds.length) 0)]) (fun _ => True) ?_ ?_
  · refine hc_loop (X := Nat × Value) (fun x => [(5, x.2), (6, .int .i64 ((ds.length + x.1 : Nat) : Int))]) (fun x => [RowV byteE 5 x.2 (xs ++ List.replicate x.1 0)]) (fun x => x.1 ≤ padN ds.length) (fun x => padN ds.length - x.1) (0, v0) (.cons rfl (.cons rfl .nil)) (Nat.zero_le _) (fun _ h => by rw [List.replicate_zero, List.append_nil]; exact h.sub (.cons .head .nil)) ?_
    rintro ⟨j, v⟩ hj
    dsimp only at hj ⊢
    have hm := hmod j hj
    have hcast : ((ds.length + j : Nat) : Int) % 4 = (((ds.length + j) % 4 : Nat) : Int) := by omega
    by_cases hlt : j < padN ds.length
    · have hne : ¬ ((ds.length + j : Nat) : Int) % 4 = 0 := by rw [hcast]; omega
      have hlen : (xs ++ List.replicate j (0 : Int)).length = xs.length + j := by rw [List.length_append, List.length_replicate]
      (refine hc_seq ?_; refine hc_seq ?_; refine hc_lex ?_; refine hx_plain rfl ?_; refine h_move rfl rfl rfl rfl ?_; refine hx_plain rfl ?_; refine h_remI rfl rfl rfl (by omega) rfl rfl ?_; refine hx_plain rfl ?_; refine h_cmp rfl rfl rfl rfl rfl rfl ?_; refine hx_nil ?_; refine hq_then ?_; refine hc_condDT rfl (by omega) ?_; refine hc_skip ?_; refine hq_then ?_; refine hc_seq ?_; refine hc_block ?_; refine hc_lex ?_; refine hx_plain rfl ?_; refine h_move rfl rfl rfl rfl ?_; refine hx_plain rfl ?_; (refine h_buildSlice rfl rfl rfl UC.out IC.size IC.zero rfl rfl (by intro v hv; simp at hv; first | (subst hv; rfl) | (rcases hv with rfl | rfl <;> rfl) | (rcases hv with rfl | rfl | rfl <;> rfl)) (by omega) rfl rfl (fun _ => ?_)); refine hx_plain rfl ?_)
      refine h_append (m := 1) (E := byteE) (T := 5) (xs := xs ++ List.replicate j 0) (ys := [0]) rfl rfl rfl rfl rfl UC.out IC.out rfl (.cons (.tail .head) (.cons .head .nil)) rfl (one_row byteE _) (by unfold maxLen; omega) (by omega) rfl rfl (fun v' _ => ?_)
      (refine hx_plain rfl ?_; refine h_assign rfl rfl rfl rfl ?_; refine hx_nil ?_; refine hq_norm_block ?_; refine hq_then ?_; refine hc_lex ?_; refine hx_plain rfl ?_; refine h_move rfl rfl rfl rfl ?_; refine hx_plain rfl ?_; refine h_arithI rfl rfl rfl rfl (by omega) rfl rfl ?_; refine hx_plain rfl ?_; refine h_assign rfl rfl rfl rfl ?_; refine hx_nil ?_)
      refine hq_round (j + 1, v') (by show padN ds.length - (j + 1) < padN ds.length - j; omega) (by show j + 1 ≤ _; omega) (.cons rfl (.cons (by show some (Value.int .i64 _) = some (Value.int .i64 _); congr 2) .nil)) (fun _ h => ?_)
      show St w nowhere [RowV byteE 5 v' (xs ++ List.replicate (j + 1) 0)] _
      rw [List.replicate_succ', ← List.append_assoc]
      exact h.sub (.cons .head .nil)
    · obtain rfl : j = padN ds.length := by omega
      have he : ((ds.length + padN ds.length : Nat) : Int) % 4 = 0 := by rw [hcast]; omega
      (refine hc_seq ?_; refine hc_seq ?_; refine hc_lex ?_; refine hx_plain rfl ?_; refine h_move rfl rfl rfl rfl ?_; refine hx_plain rfl ?_; refine h_remI rfl rfl rfl (by omega) rfl rfl ?_; refine hx_plain rfl ?_; refine h_cmp rfl rfl rfl rfl rfl rfl ?_; refine hx_nil ?_; refine hq_then ?_; refine hc_condDF rfl (by omega) ?_; refine hc_exit ?_; refine hq_exit_then ?_; refine hq_exit_then ?_)
      exact hq_cut v trivial (.cons rfl .nil) (fun _ h => h)
  · rintro v _
    (refine hq_exit_block ?_; refine hq_then ?_; refine hc_seq ?_; refine hc_lex ?_; refine hx_plain rfl ?_; refine h_move rfl rfl rfl rfl ?_; refine hx_plain rfl ?_; refine h_assign rfl rfl rfl rfl ?_; refine hx_nil ?_; refine hq_then ?_; refine hc_ret ?_)
    exact hq_ret1 (.inr rfl) rfl rfl rfl (fun _ h => h)
set_option maxHeartbeats 1000000 in
theorem rputText_makes {bs : List Int} {s : ByteArray} {w : World} {v : Value} (h1 : Rd byteE w v bs) (hl : bs.length + s.size ≤ 140737488355000) :
    Makes Tryd.prog 44 [v, .string s] w (fun u M => M = [RowV byteE 5 u (bs ++ fieldB (strBytes s))]) := by
  have hsl := strBytes_len s
  refine makes_of Tryd.func44 rfl rfl (Nat.le_of_ble_eq_true rfl) ?_
  (refine hc_seq ?_; refine hc_lex ?_; refine hx_plain rfl ?_; refine h_assign rfl rfl rfl rfl ?_; refine hx_nil ?_; refine hq_then ?_; refine hc_seq ?_; refine hc_lex ?_; refine hx_plain rfl ?_; refine h_move rfl rfl rfl rfl ?_; refine hx_plain rfl ?_; refine h_move rfl rfl rfl rfl ?_; refine hx_plain rfl ?_)
  refine h_ofString rfl rfl rfl UC.out UC.out UC.out (by unfold maxLen; omega) rfl rfl (fun b cap => ?_)
  (refine hx_plain rfl ?_)
  refine h_callW (post := fun u M => M = [RowV byteE 5 u (bs ++ fieldB (strBytes s))]) rfl rfl rfl rfl rfl rfl rfl rfl EC.out (fun w' h => rputBytes_makes (h.rd h1) (h.rdBytB .head) (by omega)) ?_
  rintro u M rfl
  (refine hx_plain rfl ?_; refine h_assign rfl rfl rfl rfl ?_; refine hx_nil ?_; refine hq_then ?_; refine hc_ret ?_)
  exact hq_ret1 (.inr rfl) rfl rfl rfl (fun _ h => h.sub (.cons .head .nil))
end Go.Proofs.YtjnnlfeohbidhaaDoor
