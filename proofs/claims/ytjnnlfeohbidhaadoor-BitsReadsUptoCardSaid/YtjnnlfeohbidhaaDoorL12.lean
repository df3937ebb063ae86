import Derived.Test.YtjnnlfeohbidhaaDoorS1
namespace Go.Proofs.YtjnnlfeohbidhaaDoor
open Go Go.Proofs Go.RowKit
set_option maxRecDepth 4000

structure OpM where
  k : Int
  sec : Bool
  m : Int
def opE : Elem OpM where
  sz := 3
  pos := by decide
  enc t := [.int .i64 t.k, .bool t.sec, .int .i64 t.m]
  len _ := rfl
  one t v hv := by
    simp at hv
    rcases hv with rfl | rfl | rfl <;> rfl
set_option maxHeartbeats 8000000 in
theorem bitsreads_law {E : Addr} {g : Nat} {w : World} {v1 v2 v3 : Value} {xs ys : List Int} {ops : List OpM} (hI : Glo (gl E) g w) (h1 : Rd byteE w v1 xs) (h2 : Rd byteE w v2 ys) (h3 : Rd opE w v3 ops) (hb1 : Byts xs) (hb2 : Byts ys) (hl1 : xs.length ≤ 1048576) (hl2 : ys.length ≤ 1048576) (hl3 : ops.length ≤ 1048576) (wf : ∀ o ∈ ops, -9223372036854775808 ≤ o.m ∧ o.m ≤ 9223372036854775807) :
    Calls Tryd.prog 8 [v1, v2, v3].toArray w (fun en w' => en = .returned (.bool true) ∧ But w w' nowhere) := by
  have hF : ∀ b, nowhere b → g ≤ b := fun _ h => h.elim
  have hF1 : ∀ b, nowhere b → w.heap.size ≤ b := fun _ h => h.elim
  obtain ⟨a1, c1, e1, l1, m1, k1⟩ := id h1
  obtain ⟨a2, c2, e2, l2, m2, k2⟩ := id h2
  obtain ⟨a3, c3, rfl, l3, m3, k3⟩ := h3
  unfold maxLen at m1 m2 m3
  subst e1 e2
  refine reads_of Tryd.func8 rfl rfl (Nat.le_of_ble_eq_true rfl) ?_
  (refine hc_seq ?_; refine hc_lex ?_; refine hx_plain rfl ?_; refine h_assign rfl rfl rfl rfl ?_; refine hx_nil ?_; refine hq_then ?_; refine hc_seq ?_; refine hc_lex ?_; refine hx_plain rfl ?_)
  refine h_callI hI hF rfl rfl rfl rfl rfl rfl rfl rfl EC.out .nil (head_spec E g) ?_
  rintro u M ⟨rfl, rfl⟩
  (refine hx_plain rfl ?_; refine h_assign rfl rfl rfl rfl ?_; refine hx_nil ?_; refine hq_then ?_; refine hc_seq ?_; refine hc_seq ?_; refine hc_lex ?_; refine hx_plain rfl ?_; refine h_move rfl rfl rfl rfl ?_; refine hx_plain rfl ?_; refine h_not rfl rfl rfl rfl ?_; refine hx_nil ?_; refine hq_then ?_; refine hc_condF rfl ?_; refine hc_skip ?_; refine hq_then ?_; refine hc_seq ?_; refine hc_lex ?_; refine hx_plain rfl ?_; refine h_move rfl rfl rfl rfl ?_; refine hx_plain rfl ?_)
  refine h_callW (post := fun u M => M = [RowV byteE 5 u (xs ++ [161, 162, 163])]) rfl rfl rfl rfl rfl rfl rfl rfl EC.out (fun w' h => room_makes (h.rd h1) (by omega)) ?_
  rintro vx M rfl
  (refine hx_plain rfl ?_; refine h_assign rfl rfl rfl rfl ?_; refine hx_nil ?_; refine hq_then ?_; refine hc_seq ?_; refine hc_lex ?_; refine hx_plain rfl ?_; refine h_move rfl rfl rfl rfl ?_; refine hx_plain rfl ?_)
  refine h_callW (post := fun u M => M = [RowV byteE 5 u (ys ++ [161, 162, 163])]) rfl rfl rfl rfl rfl rfl rfl rfl EC.out (fun w' h => room_makes (h.rd h2) (by omega)) ?_
  rintro vy M rfl
  (refine hx_plain rfl ?_; refine h_assign rfl rfl rfl rfl ?_; refine hx_nil ?_; refine hq_then ?_)
  refine hc_rowV .head (fun _ e => by simp at e) ?_
  rintro gy cy rfl
  refine hc_rowV (.tail .head) (fun _ e => by simp at e) ?_
  rintro gx cx rfl
  refine hc_know (fun _ h => And.intro (h.row_cap .head) (h.row_cap (.tail .head))) (fun hcap => ?_)
  obtain ⟨hcx, hcy⟩ := hcap
  have hlx : (xs ++ [161, 162, 163]).length = xs.length + 3 := by rw [List.length_append]; rfl
  have hly : (ys ++ [161, 162, 163]).length = ys.length + 3 := by rw [List.length_append]; rfl
  have tkx : (xs ++ [161, 162, 163]).take xs.length = xs := by simp
  have tky : (ys ++ [161, 162, 163]).take ys.length = ys := by simp
  have rdX : ∀ w' L F0 w0 L', St w0 F0 L w' → Pull L (Row byteE 5 gx cx (xs ++ [161, 162, 163])) L' → Rd byteE w' (.slice (some ⟨gx, 0, none⟩) xs.length cx) xs := fun w' L F0 w0 L' h hp => by
    have := (h.rdRow hp).pre (n := xs.length) (by omega)
    rwa [tkx] at this
  have rdY : ∀ w' L F0 w0 L', St w0 F0 L w' → Pull L (Row byteE 5 gy cy (ys ++ [161, 162, 163])) L' → Rd byteE w' (.slice (some ⟨gy, 0, none⟩) ys.length cy) ys := fun w' L F0 w0 L' h hp => by
    have := (h.rdRow hp).pre (n := ys.length) (by omega)
    rwa [tky] at this
  (refine hc_seq ?_; refine hc_lex ?_; refine hx_plain rfl ?_; refine h_move rfl rfl rfl rfl ?_; refine hx_plain rfl ?_; refine h_move rfl rfl rfl rfl ?_; refine hx_plain rfl ?_; refine h_len_slice rfl rfl rfl UC.out rfl rfl rfl ?_; refine hx_plain rfl ?_; refine h_sliceTo rfl rfl rfl UC.out IC.size (by omega) rfl rfl ?_; refine hx_plain rfl ?_)
  refine h_callW (post := fun u M => ∃ p, u = .pointer (some ⟨p, 0, none⟩) ∧ M = [RdrO p xs 0 0 0]) rfl rfl rfl rfl rfl rfl rfl rfl EC.out (fun w' h => newReader_makes (rdX _ _ _ _ _ h .head) (by omega)) ?_
  rintro u M ⟨p1, rfl, rfl⟩
  (refine hx_plain rfl ?_; refine h_assign rfl rfl rfl rfl ?_; refine hx_nil ?_; refine hq_then ?_; refine hc_seq ?_; refine hc_lex ?_; refine hx_plain rfl ?_; refine h_move rfl rfl rfl rfl ?_; refine hx_plain rfl ?_; refine h_move rfl rfl rfl rfl ?_; refine hx_plain rfl ?_; refine h_len_slice rfl rfl rfl UC.out rfl rfl rfl ?_; refine hx_plain rfl ?_; refine h_sliceTo rfl rfl rfl UC.out IC.size (by omega) rfl rfl ?_; refine hx_plain rfl ?_)
  refine h_callW (post := fun u M => ∃ p, u = .pointer (some ⟨p, 0, none⟩) ∧ M = [RdrO p ys 0 0 0]) rfl rfl rfl rfl rfl rfl rfl rfl EC.out (fun w' h => newReader_makes (rdY _ _ _ _ _ h (.tail (.tail .head))) (by omega)) ?_
  rintro u M ⟨p2, rfl, rfl⟩
  (refine hx_plain rfl ?_; refine h_assign rfl rfl rfl rfl ?_; refine hx_nil ?_; refine hq_then ?_; refine hc_seq ?_; refine hc_seq ?_; refine hc_lex ?_; refine hx_plain rfl ?_; refine h_move rfl rfl rfl rfl ?_; refine hx_plain rfl ?_; refine h_eqNil rfl rfl rfl UC.out rfl rfl ?_; refine hx_plain rfl ?_; refine h_move rfl rfl rfl rfl ?_; refine hx_yes rfl rfl rfl ?_; refine h_move rfl rfl rfl rfl ?_; refine hx_yes rfl rfl rfl ?_; refine h_eqNil rfl rfl rfl UC.out rfl rfl ?_; refine hx_plain rfl ?_; refine h_pickF rfl rfl rfl rfl rfl ?_; refine hx_plain rfl ?_; refine h_move rfl rfl rfl rfl ?_; refine hx_yes rfl rfl rfl ?_; refine h_move rfl rfl rfl rfl ?_; refine hx_yes rfl rfl rfl ?_; refine h_move rfl rfl rfl rfl ?_; refine hx_yes rfl rfl rfl ?_)
  refine h_callW (post := fun u M => M = [RowV byteE 5 u (xs ++ [161, 162, 163])]) rfl rfl rfl rfl rfl rfl rfl rfl EC.out (fun w' h => room_makes (h.rd h1) (by omega)) ?_
  rintro z1 M rfl
  (refine hx_yes rfl rfl rfl ?_)
  refine h_callR rfl rfl rfl rfl rfl rfl EC.out (fun w' h => sameBytes (h.rdRow (.tail (.tail (.tail .head)))) (h.rdRowV .head)) ?_
  rw [decide_eq_true rfl]
  (refine hx_yes rfl rfl rfl ?_; refine h_not rfl rfl rfl rfl ?_; refine hx_plain rfl ?_; refine h_pickF rfl rfl rfl rfl rfl ?_; refine hx_plain rfl ?_; refine h_move rfl rfl rfl rfl ?_; refine hx_yes rfl rfl rfl ?_; refine h_move rfl rfl rfl rfl ?_; refine hx_yes rfl rfl rfl ?_; refine h_move rfl rfl rfl rfl ?_; refine hx_yes rfl rfl rfl ?_)
  refine h_callW (post := fun u M => M = [RowV byteE 5 u (ys ++ [161, 162, 163])]) rfl rfl rfl rfl rfl rfl rfl rfl EC.out (fun w' h => room_makes (h.rd h2) (by omega)) ?_
  rintro z2 M rfl
  (refine hx_yes rfl rfl rfl ?_)
  refine h_callR rfl rfl rfl rfl rfl rfl EC.out (fun w' h => sameBytes (h.rdRow (.tail (.tail (.tail (.tail (.tail .head)))))) (h.rdRowV .head)) ?_
  rw [decide_eq_true rfl]
  (refine hx_yes rfl rfl rfl ?_; refine h_not rfl rfl rfl rfl ?_; refine hx_plain rfl ?_; refine h_pickF rfl rfl rfl rfl rfl ?_; refine hx_nil ?_; refine hq_then ?_; refine hc_condF rfl ?_; refine hc_skip ?_; refine hq_then ?_; refine hc_seq ?_; refine hc_seq ?_; refine hc_lex ?_; refine hx_plain rfl ?_; refine h_assign rfl rfl rfl rfl ?_; refine hx_nil ?_; refine hq_then ?_; refine hc_block ?_)
  clear rdX rdY tkx tky
  obtain ⟨wx, hwx⟩ : ∃ y, xs ++ [161, 162, 163] = y := ⟨_, rfl⟩
  obtain ⟨wy, hwy⟩ : ∃ y, ys ++ [161, 162, 163] = y := ⟨_, rfl⟩
  rw [hwx] at hcx hlx ⊢
  rw [hwy] at hcy hly ⊢
  refine hc_cut (id := 0) (Y := Unit) (fun _ => [(0, .slice a1 xs.length c1), (1, .slice a2 ys.length c2), (2, .slice a3 ops.length c3), (9, .slice (some ⟨gy, 0, none⟩) wy.length cy), (10, .pointer (some ⟨p1, 0, none⟩)), (11, .pointer (some ⟨p2, 0, none⟩))]) (fun _ => [RdrX p1 xs 0 0, RdrX p2 ys 0 0, Row byteE 5 gy cy wy]) (fun _ => True) ?_ ?_
  · refine hc_loop (X := Nat) (fun i => [(0, .slice a1 xs.length c1), (1, .slice a2 ys.length c2), (2, .slice a3 ops.length c3), (8, .slice (some ⟨gx, 0, none⟩) wx.length cx), (9, .slice (some ⟨gy, 0, none⟩) wy.length cy), (10, .pointer (some ⟨p1, 0, none⟩)), (11, .pointer (some ⟨p2, 0, none⟩)), (12, .int .i64 (i : Int))]) (fun i => [Row byteE 5 gx cx (fillF (fun _ => 85) wx i), RdrX p1 xs 0 0, RdrX p2 ys 0 0, Row byteE 5 gy cy wy]) (fun i => i ≤ wx.length) (fun i => wx.length - i) 0 (.cons rfl (.cons rfl (.cons rfl (.cons rfl (.cons rfl (.cons rfl (.cons rfl (.cons rfl .nil)))))))) (Nat.zero_le _) (fun _ h => by
      have h4 := h.sub (M := [RdrO p1 xs 0 0 0, RdrO p2 ys 0 0 0, Row byteE 5 gx cx wx, Row byteE 5 gy cy wy]) (.cons (.tail (.tail (.tail .head))) (.cons (.tail (.tail .head)) (.cons (.tail (.tail .head)) (.cons (.tail (.tail .head)) .nil))))
      have h5 := ((RdrO.toX h4).perm (List.Perm.swap _ _ _))
      have h6 := RdrO.toX h5
      exact h6.sub (.cons (.tail (.tail .head)) (.cons (.tail .head) (.cons .head (.cons .head .nil))))) ?_
    intro i hi
    by_cases hlt : i < wx.length
    · have e1 := fillF_get (f := fun _ => 85) hlt
      have e2 := fillF_len (f := fun _ => 85) hi
      (refine hc_seq ?_; refine hc_seq ?_; refine hc_lex ?_; refine hx_plain rfl ?_; refine h_move rfl rfl rfl rfl ?_; refine hx_plain rfl ?_; refine h_move rfl rfl rfl rfl ?_; refine hx_plain rfl ?_; refine h_len_slice rfl rfl rfl UC.out rfl rfl rfl ?_; refine hx_plain rfl ?_; refine h_cmp rfl rfl rfl rfl rfl rfl ?_; refine hx_nil ?_; refine hq_then ?_; refine hc_condDT rfl (by omega) ?_; refine hc_skip ?_; refine hq_then ?_; refine hc_seq ?_; refine hc_block ?_; refine hc_lex ?_; refine hx_plain rfl ?_; refine h_move rfl rfl rfl rfl ?_; refine hx_plain rfl ?_; refine h_move rfl rfl rfl rfl ?_; refine hx_plain rfl ?_; refine h_rowAddr rfl rfl rfl UC.out IC.size (by omega) (by omega) rfl rfl ?_; refine hx_plain rfl ?_)
      refine h_rowStoreN (i := i) (z := 85) rfl rfl rfl .head rfl rfl rfl IC.size e1 rfl rfl ?_
      (refine hx_nil ?_; refine hq_norm_block ?_; refine hq_then ?_; refine hc_lex ?_; refine hx_plain rfl ?_; refine h_move rfl rfl rfl rfl ?_; refine hx_plain rfl ?_; refine h_arithI rfl rfl rfl rfl (by omega) rfl rfl ?_; refine hx_plain rfl ?_; refine h_assign rfl rfl rfl rfl ?_; refine hx_nil ?_)
      refine hq_round (i + 1) (by omega) (by omega) (.cons rfl (.cons rfl (.cons rfl (.cons rfl (.cons rfl (.cons rfl (.cons rfl (.cons rfl .nil)))))))) (fun _ h => ?_)
      have h2 : fillF (fun _ => 85) wx (i + 1) = (fillF (fun _ => 85) wx i).set i 85 := (fillF_set (f := fun _ => 85) hlt).symm
      rw [h2]
      exact h
    · (refine hc_seq ?_; refine hc_seq ?_; refine hc_lex ?_; refine hx_plain rfl ?_; refine h_move rfl rfl rfl rfl ?_; refine hx_plain rfl ?_; refine h_move rfl rfl rfl rfl ?_; refine hx_plain rfl ?_; refine h_len_slice rfl rfl rfl UC.out rfl rfl rfl ?_; refine hx_plain rfl ?_; refine h_cmp rfl rfl rfl rfl rfl rfl ?_; refine hx_nil ?_; refine hq_then ?_; refine hc_condDF rfl (by omega) ?_; refine hc_exit ?_; refine hq_exit_then ?_; refine hq_exit_then ?_)
      exact hq_cut () trivial (.cons rfl (.cons rfl (.cons rfl (.cons rfl (.cons rfl (.cons rfl .nil)))))) (fun _ h => h.sub (.cons (.tail .head) (.cons (.tail .head) (.cons (.tail .head) .nil))))
  rintro ⟨⟩ _
  (refine hq_exit_block ?_; refine hq_then ?_; refine hc_seq ?_; refine hc_seq ?_; refine hc_lex ?_; refine hx_plain rfl ?_; refine h_assign rfl rfl rfl rfl ?_; refine hx_nil ?_; refine hq_then ?_; refine hc_block ?_)
  refine hc_cut (id := 2) (Y := Unit) (fun _ => [(0, .slice a1 xs.length c1), (1, .slice a2 ys.length c2), (2, .slice a3 ops.length c3), (10, .pointer (some ⟨p1, 0, none⟩)), (11, .pointer (some ⟨p2, 0, none⟩))]) (fun _ => [RdrX p1 xs 0 0, RdrX p2 ys 0 0]) (fun _ => True) ?_ ?_
  · refine hc_loop (X := Nat) (fun i => [(0, .slice a1 xs.length c1), (1, .slice a2 ys.length c2), (2, .slice a3 ops.length c3), (9, .slice (some ⟨gy, 0, none⟩) wy.length cy), (10, .pointer (some ⟨p1, 0, none⟩)), (11, .pointer (some ⟨p2, 0, none⟩)), (13, .int .i64 (i : Int))]) (fun i => [Row byteE 5 gy cy (fillF (fun _ => 102) wy i), RdrX p1 xs 0 0, RdrX p2 ys 0 0]) (fun i => i ≤ wy.length) (fun i => wy.length - i) 0 (.cons rfl (.cons rfl (.cons rfl (.cons rfl (.cons rfl (.cons rfl (.cons rfl .nil))))))) (Nat.zero_le _) (fun _ h => h.sub (.cons (.tail (.tail .head)) (.cons .head (.cons .head .nil)))) ?_
    intro i hi
    by_cases hlt : i < wy.length
    · have e1 := fillF_get (f := fun _ => 102) hlt
      have e2 := fillF_len (f := fun _ => 102) hi
      (refine hc_seq ?_; refine hc_seq ?_; refine hc_lex ?_; refine hx_plain rfl ?_; refine h_move rfl rfl rfl rfl ?_; refine hx_plain rfl ?_; refine h_move rfl rfl rfl rfl ?_; refine hx_plain rfl ?_; refine h_len_slice rfl rfl rfl UC.out rfl rfl rfl ?_; refine hx_plain rfl ?_; refine h_cmp rfl rfl rfl rfl rfl rfl ?_; refine hx_nil ?_; refine hq_then ?_; refine hc_condDT rfl (by omega) ?_; refine hc_skip ?_; refine hq_then ?_; refine hc_seq ?_; refine hc_block ?_; refine hc_lex ?_; refine hx_plain rfl ?_; refine h_move rfl rfl rfl rfl ?_; refine hx_plain rfl ?_; refine h_move rfl rfl rfl rfl ?_; refine hx_plain rfl ?_; refine h_rowAddr rfl rfl rfl UC.out IC.size (by omega) (by omega) rfl rfl ?_; refine hx_plain rfl ?_)
      refine h_rowStoreN (i := i) (z := 102) rfl rfl rfl .head rfl rfl rfl IC.size e1 rfl rfl ?_
      (refine hx_nil ?_; refine hq_norm_block ?_; refine hq_then ?_; refine hc_lex ?_; refine hx_plain rfl ?_; refine h_move rfl rfl rfl rfl ?_; refine hx_plain rfl ?_; refine h_arithI rfl rfl rfl rfl (by omega) rfl rfl ?_; refine hx_plain rfl ?_; refine h_assign rfl rfl rfl rfl ?_; refine hx_nil ?_)
      refine hq_round (i + 1) (by omega) (by omega) (.cons rfl (.cons rfl (.cons rfl (.cons rfl (.cons rfl (.cons rfl (.cons rfl .nil))))))) (fun _ h => ?_)
      have h2 : fillF (fun _ => 102) wy (i + 1) = (fillF (fun _ => 102) wy i).set i 102 := (fillF_set (f := fun _ => 102) hlt).symm
      rw [h2]
      exact h
    · (refine hc_seq ?_; refine hc_seq ?_; refine hc_lex ?_; refine hx_plain rfl ?_; refine h_move rfl rfl rfl rfl ?_; refine hx_plain rfl ?_; refine h_move rfl rfl rfl rfl ?_; refine hx_plain rfl ?_; refine h_len_slice rfl rfl rfl UC.out rfl rfl rfl ?_; refine hx_plain rfl ?_; refine h_cmp rfl rfl rfl rfl rfl rfl ?_; refine hx_nil ?_; refine hq_then ?_; refine hc_condDF rfl (by omega) ?_; refine hc_exit ?_; refine hq_exit_then ?_; refine hq_exit_then ?_)
      exact hq_cut () trivial (.cons rfl (.cons rfl (.cons rfl (.cons rfl (.cons rfl .nil))))) (fun _ h => h.sub (.cons (.tail .head) (.cons (.tail .head) .nil)))
  rintro ⟨⟩ _
  (refine hq_exit_block ?_; refine hq_then ?_; refine hc_seq ?_; refine hc_lex ?_; refine hx_plain rfl ?_; refine h_move rfl rfl rfl rfl ?_; refine hx_plain rfl ?_)
  refine h_callW (post := fun u M => ∃ q, u = .pointer (some ⟨q, 0, none⟩) ∧ M = [RRd q xs 0 0]) rfl rfl rfl rfl rfl rfl rfl rfl EC.out (fun w' h => rnew_makes (h.rd h1) (by omega)) ?_
  rintro u M ⟨q1, rfl, rfl⟩
  (refine hx_plain rfl ?_; refine h_assign rfl rfl rfl rfl ?_; refine hx_nil ?_; refine hq_then ?_; refine hc_seq ?_; refine hc_lex ?_; refine hx_plain rfl ?_; refine h_move rfl rfl rfl rfl ?_; refine hx_plain rfl ?_)
  refine h_callW (post := fun u M => ∃ q, u = .pointer (some ⟨q, 0, none⟩) ∧ M = [RRd q ys 0 0]) rfl rfl rfl rfl rfl rfl rfl rfl EC.out (fun w' h => rnew_makes (h.rd h2) (by omega)) ?_
  rintro u M ⟨q2, rfl, rfl⟩
  (refine hx_plain rfl ?_; refine h_assign rfl rfl rfl rfl ?_; refine hx_nil ?_; refine hq_then ?_; refine hc_seq ?_; refine hc_lex ?_; refine hx_plain rfl ?_; refine h_build rfl inferInstance rfl rfl rfl rfl ?_; refine hx_plain rfl ?_; (refine h_box rfl rfl rfl rfl rfl rfl (fun _ => ?_)); refine hx_plain rfl ?_; refine h_assign rfl rfl rfl rfl ?_; refine hx_nil ?_; refine hq_then ?_; refine hc_seq ?_; refine hc_seq ?_; refine hc_lex ?_; refine hx_plain rfl ?_; refine h_assign rfl rfl rfl rfl ?_; refine hx_nil ?_; refine hq_then ?_; refine hc_block ?_)
  rename_i kb
  refine hc_cut (id := 4) (Y := Unit) (fun _ => []) (fun _ => []) (fun _ => True) ?_ ?_
  · refine hc_loop (X := Nat × (Nat × Int) × (Nat × Int) × List (SlV × Nat)) (fun x => [(2, .slice a3 ops.length c3), (10, .pointer (some ⟨p1, 0, none⟩)), (11, .pointer (some ⟨p2, 0, none⟩)), (14, .pointer (some ⟨q1, 0, none⟩)), (15, .pointer (some ⟨q2, 0, none⟩)), (16, .pointer (some ⟨kb, 0, none⟩)), (17, .int .i64 (x.1 : Int))]) (fun x => [RdrX p1 xs x.2.1.1 x.2.1.2, RRd q1 xs x.2.1.1 x.2.1.2, RdrX p2 ys x.2.2.1.1 x.2.2.1.2, RRd q2 ys x.2.2.1.1 x.2.2.1.2, BkO kb x.2.2.2]) (fun x => x.1 ≤ ops.length ∧ x.2.1.1 ≤ xs.length ∧ x.2.2.1.1 ≤ ys.length ∧ x.2.2.2.length ≤ 3 * x.1 ∧ BkW x.2.2.2) (fun x => ops.length - x.1) (0, (0, 0), (0, 0), []) (.cons rfl (.cons rfl (.cons rfl (.cons rfl (.cons rfl (.cons rfl (.cons rfl .nil))))))) ⟨Nat.zero_le _, Nat.zero_le _, Nat.zero_le _, Nat.le_refl _, rfl, fun _ h => by cases h⟩ (fun _ h => (BkO_new h).sub (.cons (.tail (.tail (.tail .head))) (.cons (.tail (.tail .head)) (.cons (.tail (.tail .head)) (.cons (.tail .head) (.cons .head .nil)))))) ?_
    rintro ⟨i, ⟨at1, er1⟩, ⟨at2, er2⟩, ents⟩ ⟨hi, ha1, ha2, hn, hW⟩
    dsimp only at hi ha1 ha2 hn hW ⊢
    by_cases hlt : i < ops.length
    case neg =>
      (refine hc_seq ?_; refine hc_seq ?_; refine hc_lex ?_; refine hx_plain rfl ?_; refine h_move rfl rfl rfl rfl ?_; refine hx_plain rfl ?_; refine h_move rfl rfl rfl rfl ?_; refine hx_plain rfl ?_; refine h_len_slice rfl rfl rfl UC.out rfl rfl rfl ?_; refine hx_plain rfl ?_; refine h_cmp rfl rfl rfl rfl rfl rfl ?_; refine hx_nil ?_; refine hq_then ?_; refine hc_condDF rfl (by omega) ?_; refine hc_exit ?_; refine hq_exit_then ?_; refine hq_exit_then ?_)
      exact hq_cut () trivial .nil (fun _ h => h.emp)
    obtain ⟨g1, o1, rfl, r1⟩ := k3.resolve_left (fun e => by rw [e] at hlt; exact absurd hlt (Nat.not_lt_zero _))
    have hm := wf _ (List.getElem_mem hlt)
    obtain ⟨⟨k, sec, m⟩, ho⟩ : ∃ o, ops[i] = o := ⟨_, rfl⟩
    rw [ho] at hm
    dsimp only at hm
    have e1 : ops[((i : Nat) : Int).toNat]? = some ⟨k, sec, m⟩ := by rw [show ((i : Nat) : Int).toNat = i by omega, List.getElem?_eq_getElem hlt, ho]
    cases sec with
    | false =>
      (refine hc_seq ?_; refine hc_seq ?_; refine hc_lex ?_; refine hx_plain rfl ?_; refine h_move rfl rfl rfl rfl ?_; refine hx_plain rfl ?_; refine h_move rfl rfl rfl rfl ?_; refine hx_plain rfl ?_; refine h_len_slice rfl rfl rfl UC.out rfl rfl rfl ?_; refine hx_plain rfl ?_; refine h_cmp rfl rfl rfl rfl rfl rfl ?_; refine hx_nil ?_; refine hq_then ?_; refine hc_condDT rfl (by omega) ?_; refine hc_skip ?_; refine hq_then ?_; refine hc_seq ?_; refine hc_block ?_; refine hc_seq ?_; refine hc_seq ?_; refine hc_lex ?_; refine hx_plain rfl ?_; refine h_move rfl rfl rfl rfl ?_; refine hx_plain rfl ?_; refine h_move rfl rfl rfl rfl ?_; refine hx_plain rfl ?_; refine h_indexAddr rfl rfl rfl UC.out IC.size (by omega) (by omega) rfl rfl ?_; refine hx_plain rfl ?_; refine h_fieldAddr rfl rfl FC.out rfl rfl ?_; refine hx_plain rfl ?_; refine h_rdLoad rfl r1 rfl UC.out rfl (by with_reducible assumption) rfl rfl rfl ?_; refine hx_nil ?_; refine hq_then ?_; refine hc_condF rfl ?_; refine hc_lex ?_; refine hx_plain rfl ?_; refine h_move rfl rfl rfl rfl ?_; refine hx_plain rfl ?_; refine h_move rfl rfl rfl rfl ?_; refine hx_plain rfl ?_; refine h_indexAddr rfl rfl rfl UC.out IC.size (by omega) (by omega) rfl rfl ?_; refine hx_plain rfl ?_; refine h_rdLoadN rfl r1 rfl UC.out rfl IC.size (by with_reducible assumption) rfl rfl rfl ?_; refine hx_plain rfl ?_; refine h_move rfl rfl rfl rfl ?_; refine hx_plain rfl ?_; refine h_move rfl rfl rfl rfl ?_; refine hx_plain rfl ?_; refine h_move rfl rfl rfl rfl ?_; refine hx_plain rfl ?_)
      refine h_callB (.refl w nowhere) hF1 rfl rfl rfl rfl rfl rfl rfl rfl EC.out (.cons .head (.cons .head (.cons (.tail (.tail .head)) .nil))) (step_spec hI p1 q1 kb xs at1 er1 k m false ents hb1 hl1 ha1 hm hW (by omega)) ?_
      rintro u M ⟨rfl, at', er', ents', ha', hn', hW', rfl⟩
      (refine hx_plain rfl ?_; refine h_assign rfl rfl rfl rfl ?_; refine hx_nil ?_; refine hq_then ?_; refine hc_seq ?_; refine hc_lex ?_; refine hx_plain rfl ?_; refine h_move rfl rfl rfl rfl ?_; refine hx_plain rfl ?_; refine h_not rfl rfl rfl rfl ?_; refine hx_plain rfl ?_; refine h_move rfl rfl rfl rfl ?_; refine hx_yes rfl rfl rfl ?_; refine h_move rfl rfl rfl rfl ?_; refine hx_yes rfl rfl rfl ?_)
      refine h_call rfl rfl rfl rfl rfl rfl rfl rfl EC.out (.cons (.tail (.tail .head)) .nil) (whole_spec kb ents' (by omega) hW') ?_
      rintro u M ⟨rfl, rfl⟩
      (refine hx_yes rfl rfl rfl ?_; refine h_not rfl rfl rfl rfl ?_; refine hx_plain rfl ?_; refine h_pickF rfl rfl rfl rfl rfl ?_; refine hx_nil ?_; refine hq_then ?_; refine hc_condF rfl ?_; refine hc_skip ?_; refine hq_norm_block ?_; refine hq_then ?_; refine hc_lex ?_; refine hx_plain rfl ?_; refine h_move rfl rfl rfl rfl ?_; refine hx_plain rfl ?_; refine h_arithI rfl rfl rfl rfl (by omega) rfl rfl ?_; refine hx_plain rfl ?_; refine h_assign rfl rfl rfl rfl ?_; refine hx_nil ?_)
      exact hq_round (i + 1, (at', er'), (at2, er2), ents') (by show ops.length - (i + 1) < ops.length - i; omega) ⟨by show i + 1 ≤ ops.length; omega, ha', ha2, by show ents'.length ≤ 3 * (i + 1); omega, hW'⟩ (.cons rfl (.cons rfl (.cons rfl (.cons rfl (.cons rfl (.cons rfl (.cons rfl .nil))))))) (fun _ h => h.sub (.cons (.tail .head) (.cons (.tail .head) (.cons (.tail .head) (.cons (.tail .head) (.cons .head .nil))))))
    | true =>
      (refine hc_seq ?_; refine hc_seq ?_; refine hc_lex ?_; refine hx_plain rfl ?_; refine h_move rfl rfl rfl rfl ?_; refine hx_plain rfl ?_; refine h_move rfl rfl rfl rfl ?_; refine hx_plain rfl ?_; refine h_len_slice rfl rfl rfl UC.out rfl rfl rfl ?_; refine hx_plain rfl ?_; refine h_cmp rfl rfl rfl rfl rfl rfl ?_; refine hx_nil ?_; refine hq_then ?_; refine hc_condDT rfl (by omega) ?_; refine hc_skip ?_; refine hq_then ?_; refine hc_seq ?_; refine hc_block ?_; refine hc_seq ?_; refine hc_seq ?_; refine hc_lex ?_; refine hx_plain rfl ?_; refine h_move rfl rfl rfl rfl ?_; refine hx_plain rfl ?_; refine h_move rfl rfl rfl rfl ?_; refine hx_plain rfl ?_; refine h_indexAddr rfl rfl rfl UC.out IC.size (by omega) (by omega) rfl rfl ?_; refine hx_plain rfl ?_; refine h_fieldAddr rfl rfl FC.out rfl rfl ?_; refine hx_plain rfl ?_; refine h_rdLoad rfl r1 rfl UC.out rfl (by with_reducible assumption) rfl rfl rfl ?_; refine hx_nil ?_; refine hq_then ?_; refine hc_condT rfl ?_; refine hc_lex ?_; refine hx_plain rfl ?_; refine h_move rfl rfl rfl rfl ?_; refine hx_plain rfl ?_; refine h_move rfl rfl rfl rfl ?_; refine hx_plain rfl ?_; refine h_indexAddr rfl rfl rfl UC.out IC.size (by omega) (by omega) rfl rfl ?_; refine hx_plain rfl ?_; refine h_rdLoadN rfl r1 rfl UC.out rfl IC.size (by with_reducible assumption) rfl rfl rfl ?_; refine hx_plain rfl ?_; refine h_move rfl rfl rfl rfl ?_; refine hx_plain rfl ?_; refine h_move rfl rfl rfl rfl ?_; refine hx_plain rfl ?_; refine h_move rfl rfl rfl rfl ?_; refine hx_plain rfl ?_)
      refine h_callB (.refl w nowhere) hF1 rfl rfl rfl rfl rfl rfl rfl rfl EC.out (.cons (.tail (.tail .head)) (.cons (.tail (.tail .head)) (.cons (.tail (.tail .head)) .nil))) (step_spec hI p2 q2 kb ys at2 er2 k m true ents hb2 hl2 ha2 hm hW (by omega)) ?_
      rintro u M ⟨rfl, at', er', ents', ha', hn', hW', rfl⟩
      (refine hx_plain rfl ?_; refine h_assign rfl rfl rfl rfl ?_; refine hx_nil ?_; refine hq_then ?_; refine hc_seq ?_; refine hc_lex ?_; refine hx_plain rfl ?_; refine h_move rfl rfl rfl rfl ?_; refine hx_plain rfl ?_; refine h_not rfl rfl rfl rfl ?_; refine hx_plain rfl ?_; refine h_move rfl rfl rfl rfl ?_; refine hx_yes rfl rfl rfl ?_; refine h_move rfl rfl rfl rfl ?_; refine hx_yes rfl rfl rfl ?_)
      refine h_call rfl rfl rfl rfl rfl rfl rfl rfl EC.out (.cons (.tail (.tail .head)) .nil) (whole_spec kb ents' (by omega) hW') ?_
      rintro u M ⟨rfl, rfl⟩
      (refine hx_yes rfl rfl rfl ?_; refine h_not rfl rfl rfl rfl ?_; refine hx_plain rfl ?_; refine h_pickF rfl rfl rfl rfl rfl ?_; refine hx_nil ?_; refine hq_then ?_; refine hc_condF rfl ?_; refine hc_skip ?_; refine hq_norm_block ?_; refine hq_then ?_; refine hc_lex ?_; refine hx_plain rfl ?_; refine h_move rfl rfl rfl rfl ?_; refine hx_plain rfl ?_; refine h_arithI rfl rfl rfl rfl (by omega) rfl rfl ?_; refine hx_plain rfl ?_; refine h_assign rfl rfl rfl rfl ?_; refine hx_nil ?_)
      exact hq_round (i + 1, (at1, er1), (at', er'), ents') (by show ops.length - (i + 1) < ops.length - i; omega) ⟨by show i + 1 ≤ ops.length; omega, ha1, ha', by show ents'.length ≤ 3 * (i + 1); omega, hW'⟩ (.cons rfl (.cons rfl (.cons rfl (.cons rfl (.cons rfl (.cons rfl (.cons rfl .nil))))))) (fun _ h => h.sub (.cons (.tail (.tail (.tail .head))) (.cons (.tail (.tail (.tail .head))) (.cons (.tail .head) (.cons (.tail .head) (.cons .head .nil))))))
  · rintro ⟨⟩ _
    (refine hq_exit_block ?_; refine hq_then ?_; refine hc_seq ?_; refine hc_lex ?_; refine hx_plain rfl ?_; refine h_assign rfl rfl rfl rfl ?_; refine hx_nil ?_; refine hq_then ?_; refine hc_ret ?_)
    exact hq_ret1 (.inr rfl) rfl rfl ⟨rfl, rfl⟩ (fun _ h => h)
end Go.Proofs.YtjnnlfeohbidhaaDoor
