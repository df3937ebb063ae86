import Derived.Test.YtfolhmlldoepfaaGreatDoorGd
import Derived.Test.YtfolhmlldoepfaaGreatDoorGp
namespace Go.Proofs.YtfolhmlldoepfaaGreatDoor
open Go Go.Proofs Go.RowKit
set_option maxRecDepth 4000
def givL (status op : Int) : List UInt8 := if status = 0 then (if op = 1 ∨ op = 2 ∨ op = 4 ∨ op = 5 ∨ op = 7 then [97] else if op = 3 then [97, 100] else if op = 10 then [116] else []) else []
theorem givL_len (status op : Int) : (givL status op).length ≤ 1000 := by
  unfold givL
  repeat' split
  all_goals decide
set_option maxHeartbeats 4000000 in
theorem gives_spec (r : RepV) : Spec0 Tryz.prog 84 [.agg r.cs] (.string ⟨(givL r.status r.op).toArray⟩) := by
  obtain ⟨client, seq, epoch, op, status, aid, akind, asize, achange, ⟨da, dn, dc⟩, ⟨la, ln, lc⟩, more⟩ := r
  dsimp only [RepV.cs, SlV.v]
  refine spec_of Tryz.func84 rfl rfl (Nat.le_of_ble_eq_true rfl) (fun w F => ?_)
  (refine Zl rfl ?_; (refine h_box rfl rfl rfl rfl rfl rfl (fun _ => ?_)); refine Zn rfl rfl rfl rfl rfl ?_; refine hc_seq ?_; refine Zl rfl ?_; refine h_fieldAddr0 rfl rfl FC.out rfl rfl ?_; refine Zh rfl rfl rfl rfl rfl rfl rfl ?_; refine hx_plain rfl ?_)
  refine h_callR rfl rfl rfl rfl rfl rfl EC.out ((rnum_spec status).reads _) ?_
  (refine Zc rfl rfl rfl rfl rfl rfl rfl ?_; refine Zt ?_; refine hc_condD rfl (fun hc => ?_) (fun hc => ?_); refine Zx rfl rfl rfl rfl rfl ?_; refine hc_ret ?_; refine hq_ret_then ?_; rotate_left; refine hc_skip ?_; refine hq_then ?_; refine hc_seq ?_; refine Zl rfl ?_; refine h_fieldAddr0 rfl rfl FC.out rfl rfl ?_; refine Zh rfl rfl rfl rfl rfl rfl rfl ?_; refine Zt ?_; refine hc_block ?_; refine hc_seq ?_; (iterate 4 (refine Zl rfl ?_; refine h_cmp rfl rfl rfl rfl rfl rfl ?_; refine Zn rfl rfl rfl rfl rfl ?_; refine hc_condD rfl (fun hc => ?_) (fun hc => ?_); refine hc_skip ?_; refine hq_then ?_; refine hc_condDT rfl (by omega) ?_; refine Zx rfl rfl rfl rfl rfl ?_; refine hc_ret ?_; refine hq_ret_block ?_; refine hq_ret_then ?_; rotate_left)); refine hc_lex ?_; refine Zc rfl rfl rfl rfl rfl rfl rfl ?_; (iterate 2 (refine Zn rfl rfl rfl rfl rfl ?_; refine hc_condD rfl (fun hc => ?_) (fun hc => ?_); refine Zx rfl rfl rfl rfl rfl ?_; refine hc_ret ?_; refine hq_ret_block ?_; refine hq_ret_then ?_; rotate_left; refine Zl rfl ?_; refine h_cmp rfl rfl rfl rfl rfl rfl ?_)); refine Zn rfl rfl rfl rfl rfl ?_; refine hc_condD rfl (fun hc => ?_) (fun hc => ?_); refine Zx rfl rfl rfl rfl rfl ?_; refine hc_ret ?_; refine hq_ret_block ?_; refine hq_ret_then ?_; rotate_left; refine hc_skip ?_; refine hq_norm_block ?_; refine hq_then ?_; refine Zx rfl rfl rfl rfl rfl ?_; refine hc_ret ?_; rotate_left)
  all_goals (refine hq_ret1 (.inr rfl) rfl rfl ⟨congrArg Value.string ?_, rfl⟩ (fun _ h => h.emp); unfold givL; first | (subst_vars; rfl) | (simp_all; done))
theorem goodP_eq {r : RepV} {es : List EntV} (ho : 1 ≤ r.op ∧ r.op ≤ 10) (client seq epoch op status aid akind asize achange : Int) (da la : Option Addr) (dn dc ln lc : Nat) (more : Bool) (hr : r = ⟨client, seq, epoch, op, status, aid, akind, asize, achange, ⟨da, dn, dc⟩, ⟨la, ln, lc⟩, more⟩) : r.good es = ((bif (givL status op).contains 97 then attrB op aid akind asize achange else decide (aid = 0 ∧ akind = 0 ∧ asize = 0 ∧ achange = 0)) && (bif (givL status op).contains 100 then decide ((dn : Int) ≤ 1024) else decide ((dn : Int) = 0)) && (bif (givL status op).contains 116 then ((listB none es && decide (es.length ≤ 16)) && (!more || decide ((0 : Int) < (ln : Int)))) else (decide ((ln : Int) = 0) && !more))) := by
  subst hr
  dsimp only at ho ⊢
  have hd0 : decide ((dn : Int) = 0) = decide (dn = 0) := by rw [decide_eq_decide]; omega
  have hd1 : decide ((dn : Int) ≤ 1024) = decide (dn ≤ 1024) := by rw [decide_eq_decide]; omega
  have hd2 : decide ((ln : Int) = 0) = decide (ln = 0) := by rw [decide_eq_decide]; omega
  have hd3 : decide ((0 : Int) < (ln : Int)) = decide (0 < ln) := by rw [decide_eq_decide]; omega
  rw [hd0, hd1, hd2, hd3]
  by_cases hs : status = 0
  · subst hs
    have hc : op = 1 ∨ op = 2 ∨ op = 3 ∨ op = 4 ∨ op = 5 ∨ op = 6 ∨ op = 7 ∨ op = 8 ∨ op = 9 ∨ op = 10 := by omega
    rcases hc with rfl | rfl | rfl | rfl | rfl | rfl | rfl | rfl | rfl | rfl
    all_goals
      simp only [RepV.good, clrP', rpFs, askP, Int.reduceToNat, List.getElem?_cons_succ, List.getElem?_cons_zero, Option.getD_some, List.map_cons, List.map_nil, fldP, clrAllP, List.foldl_cons, List.foldl_nil, RpF.clr, RepV.zeroB, List.all_cons, List.all_nil, RpF.ok, givL, if_true, Bool.decide_and]
      rw [Bool.eq_iff_iff]
      simp
    all_goals grind
  · simp only [RepV.good, clrP', clrAllP, List.foldl_nil, RepV.zeroB, List.all_nil, givL, if_neg hs, Bool.decide_and]
    rw [Bool.eq_iff_iff]
    simp
    try grind
set_option maxHeartbeats 8000000 in
theorem brought_reads {w : World} (r : RepV) {es : List EntV} (ho : 1 ≤ r.op ∧ r.op ≤ 10) (hl : Rd entE w r.lv.v es) : Calls Tryz.prog 54 [Value.agg r.cs].toArray w (fun en w' => en = .returned (.int .i64 (if r.good es then 0 else 46)) ∧ But w w' nowhere) := by
  obtain ⟨client, seq, epoch, op, status, aid, akind, asize, achange, ⟨da, dn, dc⟩, ⟨la, ln, lc⟩, more⟩ := r
  rw [goodP_eq ho client seq epoch op status aid akind asize achange da la dn dc ln lc more rfl]
  dsimp only [RepV.cs, SlV.v] at ho hl ⊢
  refine reads_of Tryz.func54 rfl rfl (Nat.le_of_ble_eq_true rfl) ?_
  have hcat : ∀ b : UInt8, ∃ v : Bool, (givL status op).contains b = v := fun b => ⟨_, rfl⟩
  (refine Zl rfl ?_; (refine h_box rfl rfl rfl rfl rfl rfl (fun _ => ?_)); refine Zn rfl rfl rfl rfl rfl ?_; refine Zl rfl ?_)
  refine h_loadP (cs' := #[.int .i64 client, .int .i64 seq, .int .i64 epoch, .int .i64 op, .int .i64 status, .int .i64 aid, .int .i64 akind, .int .i64 asize, .int .i64 achange, .slice da dn dc, .slice la ln lc, .bool more]) rfl rfl UC.out rfl IC.size .head rfl (by kernel_rfl) rfl rfl ?_
  (refine hx_plain rfl ?_)
  refine h_callR rfl rfl rfl rfl rfl rfl EC.out ((gives_spec ⟨client, seq, epoch, op, status, aid, akind, asize, achange, ⟨da, dn, dc⟩, ⟨la, ln, lc⟩, more⟩).reads _) ?_
  (refine Zn rfl rfl rfl rfl rfl ?_; refine Zl rfl ?_; refine h_fieldAddr0 rfl rfl FC.out rfl rfl ?_; refine hx_plain rfl ?_)
  refine h_loadP (cs' := #[.int .i64 aid, .int .i64 akind, .int .i64 asize, .int .i64 achange]) rfl rfl UC.out rfl IC.size .head rfl (by kernel_rfl) rfl rfl ?_
  (refine hx_plain rfl ?_; refine h_build rfl inferInstance rfl rfl rfl rfl ?_; refine hx_plain rfl ?_)
  refine h_callR rfl rfl rfl rfl rfl rfl EC.out ((sameAttr aid akind asize achange 0 0 0 0).reads _) ?_
  (refine Zn rfl rfl rfl rfl rfl ?_)
  rename_i bx
  refine hc_meet (Y := Unit) (fun _ => [(1, .pointer (some ⟨bx, 0, none⟩)), (3, .string ⟨(givL status op).toArray⟩), (4, .bool (bif (givL status op).contains 97 then attrB op aid akind asize achange else decide (aid = 0 ∧ akind = 0 ∧ asize = 0 ∧ achange = 0)))]) (fun _ => [Blk bx (.cells #[.int .i64 client, .int .i64 seq, .int .i64 epoch, .int .i64 op, .int .i64 status, .int .i64 aid, .int .i64 akind, .int .i64 asize, .int .i64 achange, .slice da dn dc, .slice la ln lc, .bool more] 30 (0, 0))]) (fun _ => True) ?_ ?_
  · obtain ⟨b, hb⟩ := hcat 97
    rw [hb]
    (refine Zw rfl rfl rfl rfl rfl ?_; refine hx_plain rfl ?_)
    refine h_callR rfl rfl rfl rfl rfl rfl EC.out ((in_spec (givL status op) 97 (givL_len status op)).reads _) ?_
    rw [hb]
    cases b
    · (refine Zt ?_; refine hc_condF rfl ?_; refine hc_skip ?_)
      exact hq_met () trivial (.cons rfl (.cons rfl (.cons rfl .nil))) (fun _ h => h)
    · (refine Zt ?_; refine hc_condT rfl ?_; refine hc_lex ?_; refine Zf rfl rfl rfl rfl rfl ?_; refine Zh rfl rfl rfl rfl rfl rfl rfl ?_; refine Zf rfl rfl rfl rfl rfl ?_; refine hx_plain rfl ?_)
      refine h_loadP (cs' := #[.int .i64 aid, .int .i64 akind, .int .i64 asize, .int .i64 achange]) rfl rfl UC.out rfl IC.size .head rfl (by kernel_rfl) rfl rfl ?_
      (refine hx_plain rfl ?_)
      refine h_callR rfl rfl rfl rfl rfl rfl EC.out ((rattr_spec op aid akind asize achange).reads _) ?_
      (refine Za rfl rfl rfl rfl rfl ?_; refine hx_nil ?_)
      exact hq_met () trivial (.cons rfl (.cons rfl (.cons rfl .nil))) (fun _ h => h)
  rintro ⟨⟩ _
  refine hc_seq ?_
  refine hc_lex ?_
  (refine Zf rfl rfl rfl rfl rfl ?_; refine Zh rfl rfl rfl rfl rfl rfl rfl ?_; refine hx_plain rfl ?_; refine h_len_slice rfl rfl rfl UC.out rfl rfl rfl ?_; refine Zc rfl rfl rfl rfl rfl rfl rfl ?_; refine Zn rfl rfl rfl rfl rfl ?_)
  refine hc_meet (Y := Unit) (fun _ => [(1, .pointer (some ⟨bx, 0, none⟩)), (3, .string ⟨(givL status op).toArray⟩), (4, .bool (bif (givL status op).contains 97 then attrB op aid akind asize achange else decide (aid = 0 ∧ akind = 0 ∧ asize = 0 ∧ achange = 0))), (5, .bool (bif (givL status op).contains 100 then decide ((dn : Int) ≤ 1024) else decide ((dn : Int) = 0)))]) (fun _ => [Blk bx (.cells #[.int .i64 client, .int .i64 seq, .int .i64 epoch, .int .i64 op, .int .i64 status, .int .i64 aid, .int .i64 akind, .int .i64 asize, .int .i64 achange, .slice da dn dc, .slice la ln lc, .bool more] 30 (0, 0))]) (fun _ => True) ?_ ?_
  · obtain ⟨b, hb⟩ := hcat 100
    rw [hb]
    (refine Zw rfl rfl rfl rfl rfl ?_; refine hx_plain rfl ?_)
    refine h_callR rfl rfl rfl rfl rfl rfl EC.out ((in_spec (givL status op) 100 (givL_len status op)).reads _) ?_
    rw [hb]
    cases b
    ·
      (refine Zt ?_; refine hc_condF rfl ?_; refine hc_skip ?_)
      exact hq_met () trivial (.cons rfl (.cons rfl (.cons rfl (.cons rfl .nil)))) (fun _ h => h)
    ·
      (refine Zt ?_; refine hc_condT rfl ?_; refine hc_lex ?_; refine Zf rfl rfl rfl rfl rfl ?_; refine Zh rfl rfl rfl rfl rfl rfl rfl ?_; refine hx_plain rfl ?_; refine h_len_slice rfl rfl rfl UC.out rfl rfl rfl ?_; refine Zc rfl rfl rfl rfl rfl rfl rfl ?_; refine Za rfl rfl rfl rfl rfl ?_; refine hx_nil ?_)
      exact hq_met () trivial (.cons rfl (.cons rfl (.cons rfl (.cons rfl .nil)))) (fun _ h => h)
  rintro ⟨⟩ _
  refine hc_meet (Y := Unit) (fun _ => [(1, .pointer (some ⟨bx, 0, none⟩)), (3, .string ⟨(givL status op).toArray⟩), (4, .bool (bif (givL status op).contains 97 then attrB op aid akind asize achange else decide (aid = 0 ∧ akind = 0 ∧ asize = 0 ∧ achange = 0))), (5, .bool (bif (givL status op).contains 100 then decide ((dn : Int) ≤ 1024) else decide ((dn : Int) = 0))), (6, .bool (decide ((ln : Int) = 0) && !more))]) (fun _ => [Blk bx (.cells #[.int .i64 client, .int .i64 seq, .int .i64 epoch, .int .i64 op, .int .i64 status, .int .i64 aid, .int .i64 akind, .int .i64 asize, .int .i64 achange, .slice da dn dc, .slice la ln lc, .bool more] 30 (0, 0))]) (fun _ => True) ?_ ?_
  · (refine hc_lex ?_; refine Zf rfl rfl rfl rfl rfl ?_; refine Zh rfl rfl rfl rfl rfl rfl rfl ?_; refine hx_plain rfl ?_; refine h_len_slice rfl rfl rfl UC.out rfl rfl rfl ?_; refine Zc rfl rfl rfl rfl rfl rfl rfl ?_; refine Zm rfl rfl rfl rfl rfl ?_; refine hx_gcaseD rfl rfl rfl (fun hc => ?_) (fun hc => ?_); refine hx_yes rfl rfl rfl ?_; refine h_fieldAddr0 rfl rfl FC.out rfl rfl ?_; refine hx_yes rfl rfl rfl ?_; refine h_load rfl rfl UC.out rfl .head rfl rfl rfl ?_; refine hx_yes rfl rfl rfl ?_; refine h_not rfl rfl rfl rfl ?_; refine Zq rfl rfl rfl rfl rfl rfl ?_; refine Za rfl rfl rfl rfl rfl ?_; refine hx_nil ?_; rotate_left; (iterate 3 (refine hx_skip rfl rfl rfl rfl rfl rfl ?_)); refine Zp rfl rfl rfl rfl rfl rfl ?_; refine Za rfl rfl rfl rfl rfl ?_; refine hx_nil ?_; rotate_left)
    all_goals (refine hq_met () trivial (.cons rfl (.cons rfl (.cons rfl (.cons rfl (.cons ?_ .nil))))) (fun _ h => h); first | rfl | (refine congrArg (fun b => some (Value.bool b)) ?_; first | rfl | (simp_all; done) | (simp_all; omega)))
  rintro ⟨⟩ _
  refine hc_meet (Y := Unit) (fun _ => [(1, .pointer (some ⟨bx, 0, none⟩)), (3, .string ⟨(givL status op).toArray⟩), (4, .bool (bif (givL status op).contains 97 then attrB op aid akind asize achange else decide (aid = 0 ∧ akind = 0 ∧ asize = 0 ∧ achange = 0))), (5, .bool (bif (givL status op).contains 100 then decide ((dn : Int) ≤ 1024) else decide ((dn : Int) = 0))), (6, .bool (bif (givL status op).contains 116 then ((listB none es && decide (es.length ≤ 16)) && (!more || decide ((0 : Int) < (ln : Int)))) else (decide ((ln : Int) = 0) && !more)))]) (fun _ => [Blk bx (.cells #[.int .i64 client, .int .i64 seq, .int .i64 epoch, .int .i64 op, .int .i64 status, .int .i64 aid, .int .i64 akind, .int .i64 asize, .int .i64 achange, .slice da dn dc, .slice la ln lc, .bool more] 30 (0, 0))]) (fun _ => True) ?_ ?_
  · obtain ⟨b, hb⟩ := hcat 116
    rw [hb]
    (refine Zw rfl rfl rfl rfl rfl ?_; refine hx_plain rfl ?_)
    refine h_callR rfl rfl rfl rfl rfl rfl EC.out ((in_spec (givL status op) 116 (givL_len status op)).reads _) ?_
    rw [hb]
    cases b
    · (refine Zt ?_; refine hc_condF rfl ?_; refine hc_skip ?_)
      exact hq_met () trivial (.cons rfl (.cons rfl (.cons rfl (.cons rfl (.cons rfl .nil))))) (fun _ h => h)
    · (refine Zt ?_; refine hc_condT rfl ?_; refine Zl rfl ?_; refine h_fieldAddr0 rfl rfl FC.out rfl rfl ?_; refine Zh rfl rfl rfl rfl rfl rfl rfl ?_; refine hx_plain rfl ?_)
      refine h_callRd rfl rfl rfl rfl rfl rfl EC.out (fun w' h => rentries_reads (hl.but h.but)) ?_
      obtain ⟨lb, hlb⟩ : ∃ lb, (listB none es && decide (es.length ≤ 16)) = lb := ⟨_, rfl⟩
      rw [hlb]
      cases lb
      · (refine Zn rfl rfl rfl rfl rfl ?_; refine hc_lex ?_; (iterate 2 (refine Zm rfl rfl rfl rfl rfl ?_)); (iterate 4 (refine hx_skip rfl rfl rfl rfl rfl rfl ?_)); (iterate 4 (refine hx_skipU rfl rfl rfl rfl rfl ?_)); refine hx_skip rfl rfl rfl rfl rfl rfl ?_; refine Zp rfl rfl rfl rfl rfl rfl ?_; refine Za rfl rfl rfl rfl rfl ?_; refine hx_nil ?_)
        exact hq_met () trivial (.cons rfl (.cons rfl (.cons rfl (.cons rfl (.cons rfl .nil))))) (fun _ h => h)
      · cases more
        ·
          (refine Zn rfl rfl rfl rfl rfl ?_; refine hc_lex ?_; (iterate 2 (refine Zm rfl rfl rfl rfl rfl ?_)); refine hx_yes rfl rfl rfl ?_; refine h_fieldAddr0 rfl rfl FC.out rfl rfl ?_; refine hx_yes rfl rfl rfl ?_; refine h_load rfl rfl UC.out rfl .head rfl rfl rfl ?_; refine hx_yes rfl rfl rfl ?_; refine h_not rfl rfl rfl rfl ?_; refine hx_yes rfl rfl rfl ?_; refine h_move rfl rfl rfl rfl ?_; (iterate 4 (refine hx_skip rfl rfl rfl rfl rfl rfl ?_)); refine hx_yes rfl rfl rfl ?_; refine h_pickT rfl rfl rfl rfl rfl ?_; refine Zq rfl rfl rfl rfl rfl rfl ?_; refine Za rfl rfl rfl rfl rfl ?_; refine hx_nil ?_)
          all_goals exact hq_met () trivial (.cons rfl (.cons rfl (.cons rfl (.cons rfl (.cons rfl .nil))))) (fun _ h => h)
        ·
          (refine Zn rfl rfl rfl rfl rfl ?_; refine hc_lex ?_; (iterate 2 (refine Zm rfl rfl rfl rfl rfl ?_)); refine hx_yes rfl rfl rfl ?_; refine h_fieldAddr0 rfl rfl FC.out rfl rfl ?_; refine hx_yes rfl rfl rfl ?_; refine h_load rfl rfl UC.out rfl .head rfl rfl rfl ?_; refine hx_yes rfl rfl rfl ?_; refine h_not rfl rfl rfl rfl ?_; refine hx_yes rfl rfl rfl ?_; refine h_move rfl rfl rfl rfl ?_; refine hx_yes rfl rfl rfl ?_; refine h_fieldAddr0 rfl rfl FC.out rfl rfl ?_; refine hx_yes rfl rfl rfl ?_; refine h_load rfl rfl UC.out rfl .head rfl rfl rfl ?_; refine hx_yes rfl rfl rfl ?_; refine h_len_slice rfl rfl rfl UC.out rfl rfl rfl ?_; refine hx_yes rfl rfl rfl ?_; refine h_cmp rfl rfl rfl rfl rfl rfl ?_; refine hx_yes rfl rfl rfl ?_; refine h_pickF rfl rfl rfl rfl rfl ?_; refine Zq rfl rfl rfl rfl rfl rfl ?_; refine Za rfl rfl rfl rfl rfl ?_; refine hx_nil ?_)
          all_goals exact hq_met () trivial (.cons rfl (.cons rfl (.cons rfl (.cons rfl (.cons rfl .nil))))) (fun _ h => h)
  rintro ⟨⟩ _
  obtain ⟨c0, hc0⟩ : ∃ c, (bif (givL status op).contains 97 then attrB op aid akind asize achange else decide (aid = 0 ∧ akind = 0 ∧ asize = 0 ∧ achange = 0)) = c := ⟨_, rfl⟩
  obtain ⟨c1, hc1⟩ : ∃ c, (bif (givL status op).contains 100 then decide ((dn : Int) ≤ 1024) else decide ((dn : Int) = 0)) = c := ⟨_, rfl⟩
  obtain ⟨c2, hc2⟩ : ∃ c, (bif (givL status op).contains 116 then ((listB none es && decide (es.length ≤ 16)) && (!more || decide ((0 : Int) < (ln : Int)))) else (decide ((ln : Int) = 0) && !more)) = c := ⟨_, rfl⟩
  rw [hc0, hc1, hc2]
  clear hc0 hc1 hc2
  (refine hc_seq ?_; refine Zw rfl rfl rfl rfl rfl ?_; (iterate 2 (refine Zm rfl rfl rfl rfl rfl ?_; refine hx_gcase rfl rfl rfl (fun hc => ?_) (fun hc => ?_); refine hx_yes rfl rfl rfl ?_; refine h_move rfl rfl rfl rfl ?_; refine Zq rfl rfl rfl rfl rfl rfl ?_)); refine Zt ?_; refine hc_cond rfl (fun hc => ?_) (fun hc => ?_); refine Zx rfl rfl rfl rfl rfl ?_; refine hc_ret ?_; refine hq_ret_then ?_; rotate_left; refine hc_skip ?_; refine hq_then ?_; refine Zx rfl rfl rfl rfl rfl ?_; refine hc_ret ?_; rotate_left; refine hx_skip rfl rfl rfl rfl rfl rfl ?_; refine Zp rfl rfl rfl rfl rfl rfl ?_; refine Zt ?_; refine hc_condF rfl ?_; refine hc_skip ?_; refine hq_then ?_; refine Zx rfl rfl rfl rfl rfl ?_; refine hc_ret ?_; rotate_left; refine hx_skip rfl rfl rfl rfl rfl rfl ?_; refine Zp rfl rfl rfl rfl rfl rfl ?_; refine Zm rfl rfl rfl rfl rfl ?_; refine hx_skip rfl rfl rfl rfl rfl rfl ?_; refine Zp rfl rfl rfl rfl rfl rfl ?_; refine Zt ?_; refine hc_condF rfl ?_; refine hc_skip ?_; refine hq_then ?_; refine Zx rfl rfl rfl rfl rfl ?_; refine hc_ret ?_; rotate_left)
  all_goals (refine hq_ret1 (.inr rfl) rfl rfl ⟨congrArg (Value.int .i64) ?_, rfl⟩ (fun _ h => h.emp); simp_all)
set_option maxHeartbeats 4000000 in
theorem rcheckReply_reads {w : World} (r : RepV) {es : List EntV} (hl : Rd entE w r.lv.v es) : Calls Tryz.prog 21 [Value.agg r.cs].toArray w (fun en w' => en = .returned (.int .i64 (r.chk es)) ∧ But w w' nowhere) := by
  obtain ⟨r0, hr0⟩ : ∃ r0, r0 = r := ⟨_, rfl⟩
  rw [← hr0] at hl
  obtain ⟨client, seq, epoch, op, status, aid, akind, asize, achange, ⟨da, dn, dc⟩, ⟨la, ln, lc⟩, more⟩ := r
  dsimp only [RepV.cs, SlV.v]
  rw [← hr0]
  refine reads_of Tryz.func21 rfl rfl (Nat.le_of_ble_eq_true rfl) ?_
  (refine Zl rfl ?_; (refine h_box rfl rfl rfl rfl rfl rfl (fun _ => ?_)); refine Zn rfl rfl rfl rfl rfl ?_; refine Zl rfl ?_)
  refine h_loadP (cs' := #[.int .i64 client, .int .i64 seq, .int .i64 epoch, .int .i64 op, .int .i64 status, .int .i64 aid, .int .i64 akind, .int .i64 asize, .int .i64 achange, .slice da dn dc, .slice la ln lc, .bool more]) rfl rfl UC.out rfl IC.size .head rfl (by kernel_rfl) rfl rfl ?_
  (refine hx_plain rfl ?_)
  refine h_callR rfl rfl rfl rfl rfl rfl EC.out ((ranswer_spec ⟨client, seq, epoch, op, status, aid, akind, asize, achange, ⟨da, dn, dc⟩, ⟨la, ln, lc⟩, more⟩).reads _) ?_
  rw [← hr0]
  by_cases hh : r0.head = 0
  · rw [hh]
    (refine Zn rfl rfl rfl rfl rfl ?_; refine hc_seq ?_; refine Zw rfl rfl rfl rfl rfl ?_; refine Zc rfl rfl rfl rfl rfl rfl rfl ?_; refine Zt ?_; refine hc_condF rfl ?_; refine hc_skip ?_; refine hq_then ?_; refine Zl rfl ?_)
    refine h_loadP (cs' := #[.int .i64 client, .int .i64 seq, .int .i64 epoch, .int .i64 op, .int .i64 status, .int .i64 aid, .int .i64 akind, .int .i64 asize, .int .i64 achange, .slice da dn dc, .slice la ln lc, .bool more]) rfl rfl UC.out rfl IC.size .head rfl (by kernel_rfl) rfl rfl ?_
    (refine hx_plain rfl ?_)
    refine h_callRd (v := .int .i64 (if r0.good es then 0 else 46)) rfl rfl rfl rfl rfl rfl EC.out (fun w' h => by have := brought_reads (w := w') r0 (headP_op hh) (hl.but h.but); rw [hr0] at this ⊢; exact this) ?_
    (refine Zn rfl rfl rfl rfl rfl ?_; refine hc_ret ?_)
    exact hq_ret1 (.inr rfl) rfl rfl ⟨by unfold RepV.chk; rw [if_pos hh], rfl⟩ (fun _ h => h.emp)
  · obtain ⟨h0, hh0⟩ : ∃ h0, r0.head = h0 := ⟨_, rfl⟩
    have hck : r0.chk es = h0 := by unfold RepV.chk; rw [if_neg hh, hh0]
    rw [hck, hh0]
    rw [hh0] at hh
    (refine Zn rfl rfl rfl rfl rfl ?_; refine hc_seq ?_; refine Zw rfl rfl rfl rfl rfl ?_; refine Zc rfl rfl rfl rfl rfl rfl rfl ?_; refine Zt ?_; refine hc_condDT rfl (by omega) ?_; refine Zw rfl rfl rfl rfl rfl ?_; refine Zn rfl rfl rfl rfl rfl ?_; refine hc_ret ?_; refine hq_ret_then ?_)
    exact hq_ret1 (.inr rfl) rfl rfl ⟨rfl, rfl⟩ (fun _ h => h.emp)
end Go.Proofs.YtfolhmlldoepfaaGreatDoor
namespace Go.Proofs.YtfolhmlldoepfaaGreatDoor
open Go Go.Proofs Go.RowKit
set_option maxRecDepth 4000
theorem reqBytes_eq {r : ReqV} {ds : List Int} (ho : 1 ≤ r.op ∧ r.op ≤ 10) : encQ r ds (rqFs r.op) = (bif (hasL r.op).contains 105 then p64 r.id else []) ++ (bif (hasL r.op).contains 111 then p32 r.off else []) ++ (bif (hasL r.op).contains 108 then p32 r.len else []) ++ (bif (hasL r.op).contains 112 then fieldB (strBytes r.path) else []) ++ (bif (hasL r.op).contains 110 then fieldB (strBytes r.name) else []) ++ (bif (hasL r.op).contains 106 then p64 r.id2 else []) ++ (bif (hasL r.op).contains 109 then fieldB (strBytes r.name2) else []) ++ (bif (hasL r.op).contains 100 then fieldB ds else []) := by
  obtain ⟨client, seq, ack, epoch, op, id, id2, off, len, path, name, name2, ⟨da, dn, dc⟩⟩ := r
  dsimp only at ho ⊢
  have hc : op = 1 ∨ op = 2 ∨ op = 3 ∨ op = 4 ∨ op = 5 ∨ op = 6 ∨ op = 7 ∨ op = 8 ∨ op = 9 ∨ op = 10 := by omega
  rcases hc with rfl | rfl | rfl | rfl | rfl | rfl | rfl | rfl | rfl | rfl
  all_goals
    simp [rqFs, askQ, fldAt, encQ, RqF.enc, hasL]
set_option maxHeartbeats 8000000 in
theorem reqBytes_makes {w : World} (r : ReqV) {ds : List Int} (ho : 1 ≤ r.op ∧ r.op ≤ 10) (hp : r.path.size ≤ 1000) (hn : r.name.size ≤ 1000) (hn2 : r.name2.size ≤ 1000) (hdl : ds.length ≤ 2000) (hd : Rd byteE w r.dv.v ds) :
    Makes Tryz.prog 60 [Value.agg r.cs] w (fun u M => M = [RowV byteE 5 u (hdQ r ++ encQ r ds (rqFs r.op))]) := by
  rw [reqBytes_eq ho]
  obtain ⟨hq, hhq⟩ : ∃ l, hdQ r = l := ⟨_, rfl⟩
  have hql : hq.length = 36 := by rw [← hhq]; exact hdQ_len r
  rw [hhq]
  obtain ⟨client, seq, ack, epoch, op, id, id2, off, len, path, name, name2, ⟨da, dn, dc⟩⟩ := r
  dsimp only [ReqV.cs, SlV.v] at ho hp hn hn2 hd ⊢
  have hhq' : hq = [65, 78, 81, 49] ++ p32 client ++ p64 seq ++ p64 ack ++ p64 epoch ++ p32 op := hhq.symm
  have tx : ∀ s : ByteArray, (fieldB (strBytes s)).length ≤ s.size + 7 := fun s => by
    have h1 := fieldB_lens (strBytes s)
    have h2 := strBytes_len s
    omega
  have hcat : ∀ b : UInt8, ∃ v : Bool, (hasL op).contains b = v := fun b => ⟨_, rfl⟩
  refine makes_of Tryz.func60 rfl rfl (Nat.le_of_ble_eq_true rfl) ?_
  (refine Zl rfl ?_; (refine h_box rfl rfl rfl rfl rfl rfl (fun _ => ?_)); refine Zn rfl rfl rfl rfl rfl ?_; refine Zl rfl ?_; (refine h_buildSliceB rfl rfl rfl UC.out IC.size IC.zero rfl rfl rfl (by omega) rfl rfl (fun _ => ?_)); refine hx_plain rfl ?_)
  refine h_convMark rfl rfl rfl rfl UC.out UC.out .head rfl rfl (fun fz => ?_)
  (refine Zn rfl rfl rfl rfl rfl ?_; refine Zw rfl rfl rfl rfl rfl ?_; refine Zf rfl rfl rfl rfl rfl ?_; refine hx_plain rfl ?_; refine h_load rfl rfl UC.out rfl (.tail .head) rfl rfl rfl ?_; refine hx_plain rfl ?_)
  refine h_callW (post := fun u M => M = [RowV byteE 5 u ([65, 78, 81, 49] ++ p32 client)]) rfl rfl rfl rfl rfl rfl rfl rfl EC.out (fun w' h => rput32_makes client (bs := [65, 78, 81, 49]) (St.rdHolds (E := byteE) (St.blk_holds [65, 78, 81, 49] h rfl (by decide) (flat_row byteE [65, 78, 81, 49])) .head (.head _)) (by decide)) ?_
  rintro u1 M rfl
  (refine Zn rfl rfl rfl rfl rfl ?_)
  rename_i bx bm
  refine hc_st (C' := St w nowhere [RowV byteE 5 u1 ([65, 78, 81, 49] ++ p32 client), Blk bx (.cells #[.int .i64 client, .int .i64 seq, .int .i64 ack, .int .i64 epoch, .int .i64 op, .int .i64 id, .int .i64 id2, .int .i64 off, .int .i64 len, .string path, .string name, .string name2, .slice da dn dc] 24 (0, 0))]) (fun _ h => by (refine St.sub ?_ h; refine .cons .head ?_; refine .cons (.tail .head) ?_; exact .nil)) ?_
  (refine Zw rfl rfl rfl rfl rfl ?_; refine Zf rfl rfl rfl rfl rfl ?_; refine hx_plain rfl ?_; refine h_load rfl rfl UC.out rfl (.tail .head) rfl rfl rfl ?_; refine hx_plain rfl ?_)
  refine h_callW (post := fun u M => M = [RowV byteE 5 u (([65, 78, 81, 49] ++ p32 client) ++ p64 seq)]) rfl rfl rfl rfl rfl rfl rfl rfl EC.out (fun w' h => rput64_makes seq (h.rdRowV .head) (by rw [List.length_append, p32_len]; decide)) ?_
  rintro u2 M rfl
  (refine Zn rfl rfl rfl rfl rfl ?_; refine Zw rfl rfl rfl rfl rfl ?_; refine Zf rfl rfl rfl rfl rfl ?_; refine hx_plain rfl ?_; refine h_load rfl rfl UC.out rfl (.tail (.tail .head)) rfl rfl rfl ?_; refine hx_plain rfl ?_)
  refine h_callW (post := fun u M => M = [RowV byteE 5 u ((([65, 78, 81, 49] ++ p32 client) ++ p64 seq) ++ p64 ack)]) rfl rfl rfl rfl rfl rfl rfl rfl EC.out (fun w' h => rput64_makes ack (h.rdRowV .head) (by rw [List.length_append, List.length_append, p32_len, p64_len]; decide)) ?_
  rintro u3 M rfl
  (refine Zn rfl rfl rfl rfl rfl ?_)
  refine hc_st (C' := St w nowhere [RowV byteE 5 u3 ((([65, 78, 81, 49] ++ p32 client) ++ p64 seq) ++ p64 ack), Blk bx (.cells #[.int .i64 client, .int .i64 seq, .int .i64 ack, .int .i64 epoch, .int .i64 op, .int .i64 id, .int .i64 id2, .int .i64 off, .int .i64 len, .string path, .string name, .string name2, .slice da dn dc] 24 (0, 0))]) (fun _ h => by (refine St.sub ?_ h; refine .cons .head ?_; refine .cons (.tail (.tail .head)) ?_; exact .nil)) ?_
  (refine Zw rfl rfl rfl rfl rfl ?_; refine Zf rfl rfl rfl rfl rfl ?_; refine hx_plain rfl ?_; refine h_load rfl rfl UC.out rfl (.tail .head) rfl rfl rfl ?_; refine hx_plain rfl ?_)
  refine h_callW (post := fun u M => M = [RowV byteE 5 u (((([65, 78, 81, 49] ++ p32 client) ++ p64 seq) ++ p64 ack) ++ p64 epoch)]) rfl rfl rfl rfl rfl rfl rfl rfl EC.out (fun w' h => rput64_makes epoch (h.rdRowV .head) (by rw [List.length_append, List.length_append, List.length_append, p32_len, p64_len, p64_len]; decide)) ?_
  rintro u4 M rfl
  (refine Zn rfl rfl rfl rfl rfl ?_; refine Zw rfl rfl rfl rfl rfl ?_; refine Zf rfl rfl rfl rfl rfl ?_; refine hx_plain rfl ?_; refine h_load rfl rfl UC.out rfl (.tail (.tail .head)) rfl rfl rfl ?_; refine hx_plain rfl ?_)
  refine h_callW (post := fun u M => M = [RowV byteE 5 u hq]) rfl rfl rfl rfl rfl rfl rfl rfl EC.out (fun w' h => by rw [hhq']; exact rput32_makes op (h.rdRowV .head) (by rw [List.length_append, List.length_append, List.length_append, List.length_append, p32_len, p64_len, p64_len, p64_len]; decide)) ?_
  rintro u5 M rfl
  (refine Zn rfl rfl rfl rfl rfl ?_; refine Zl rfl ?_; refine h_fieldAddr0 rfl rfl FC.out rfl rfl ?_; refine hx_plain rfl ?_; refine h_load rfl rfl UC.out rfl (.tail (.tail (.tail .head))) rfl rfl rfl ?_; refine hx_plain rfl ?_)
  refine h_callR rfl rfl rfl rfl rfl rfl EC.out ((has_spec op).reads _) ?_
  (refine Zn rfl rfl rfl rfl rfl ?_)
  refine hc_st (C' := St w nowhere [RowV byteE 5 u5 hq, Blk bx (.cells #[.int .i64 client, .int .i64 seq, .int .i64 ack, .int .i64 epoch, .int .i64 op, .int .i64 id, .int .i64 id2, .int .i64 off, .int .i64 len, .string path, .string name, .string name2, .slice da dn dc] 24 (0, 0))]) (fun _ h => by (refine St.sub ?_ h; refine .cons .head ?_; refine .cons (.tail (.tail .head)) ?_; exact .nil)) ?_
  obtain ⟨y, hy⟩ : ∃ y, u5 = y := ⟨_, rfl⟩
  rw [hy]
  clear hy hhq hhq'
  obtain ⟨B0, e0⟩ : ∃ B, hq = B := ⟨_, rfl⟩
  have l0 : B0.length ≤ 36 := by rw [← e0]; omega
  rw [e0]
  refine hc_meet (Y := Value) (fun y => [(1, .pointer (some ⟨bx, 0, none⟩)), (3, y), (4, .string ⟨(hasL op).toArray⟩)]) (fun y => [RowV byteE 5 y (B0 ++ (bif (hasL op).contains 105 then p64 id else [])), Blk bx (.cells #[.int .i64 client, .int .i64 seq, .int .i64 ack, .int .i64 epoch, .int .i64 op, .int .i64 id, .int .i64 id2, .int .i64 off, .int .i64 len, .string path, .string name, .string name2, .slice da dn dc] 24 (0, 0))]) (fun _ => True) ?_ ?_
  · obtain ⟨b, hb⟩ := hcat 105
    rw [hb]
    (refine Zw rfl rfl rfl rfl rfl ?_; refine hx_plain rfl ?_)
    refine h_callR rfl rfl rfl rfl rfl rfl EC.out ((in_spec (hasL op) 105 (hasL_len op)).reads _) ?_
    rw [hb]
    cases b
    · (refine Zt ?_; refine hc_condF rfl ?_; refine hc_skip ?_)
      exact hq_met y trivial (.cons rfl (.cons rfl (.cons rfl .nil))) (fun _ h => by rw [show (bif false then p64 id else []) = [] from rfl, List.append_nil]; exact h)
    · (refine Zt ?_; refine hc_condT rfl ?_; refine hc_lex ?_; refine Zm rfl rfl rfl rfl rfl ?_; refine Zf rfl rfl rfl rfl rfl ?_; refine hx_plain rfl ?_; refine h_load rfl rfl UC.out rfl (.tail .head) rfl rfl rfl ?_; refine hx_plain rfl ?_)
      refine h_callW (post := fun u M => M = [RowV byteE 5 u (B0 ++ p64 id)]) rfl rfl rfl rfl rfl rfl rfl rfl EC.out (fun w' h => rput64_makes id (h.rdRowV .head) (by omega)) ?_
      rintro u M rfl
      (refine Za rfl rfl rfl rfl rfl ?_; refine hx_nil ?_)
      exact hq_met u trivial (.cons rfl (.cons rfl (.cons rfl .nil))) (fun _ h => h.sub (.cons .head (.cons (.tail .head) .nil)))
  clear y
  rintro y _
  obtain ⟨B1, e1⟩ : ∃ B, B0 ++ (bif (hasL op).contains 105 then p64 id else []) = B := ⟨_, rfl⟩
  have l1 : B1.length ≤ 44 := by
    rw [← e1, List.length_append]
    cases (hasL op).contains 105
    · show _ + 0 ≤ _; omega
    · show _ + (p64 id).length ≤ _; rw [p64_len]; omega
  rw [e1]
  refine hc_meet (Y := Value) (fun y => [(1, .pointer (some ⟨bx, 0, none⟩)), (3, y), (4, .string ⟨(hasL op).toArray⟩)]) (fun y => [RowV byteE 5 y (B1 ++ (bif (hasL op).contains 111 then p32 off else [])), Blk bx (.cells #[.int .i64 client, .int .i64 seq, .int .i64 ack, .int .i64 epoch, .int .i64 op, .int .i64 id, .int .i64 id2, .int .i64 off, .int .i64 len, .string path, .string name, .string name2, .slice da dn dc] 24 (0, 0))]) (fun _ => True) ?_ ?_
  · obtain ⟨b, hb⟩ := hcat 111
    rw [hb]
    (refine Zw rfl rfl rfl rfl rfl ?_; refine hx_plain rfl ?_)
    refine h_callR rfl rfl rfl rfl rfl rfl EC.out ((in_spec (hasL op) 111 (hasL_len op)).reads _) ?_
    rw [hb]
    cases b
    · (refine Zt ?_; refine hc_condF rfl ?_; refine hc_skip ?_)
      exact hq_met y trivial (.cons rfl (.cons rfl (.cons rfl .nil))) (fun _ h => by rw [show (bif false then p32 off else []) = [] from rfl, List.append_nil]; exact h)
    · (refine Zt ?_; refine hc_condT rfl ?_; refine hc_lex ?_; refine Zm rfl rfl rfl rfl rfl ?_; refine Zf rfl rfl rfl rfl rfl ?_; refine hx_plain rfl ?_; refine h_load rfl rfl UC.out rfl (.tail .head) rfl rfl rfl ?_; refine hx_plain rfl ?_)
      refine h_callW (post := fun u M => M = [RowV byteE 5 u (B1 ++ p32 off)]) rfl rfl rfl rfl rfl rfl rfl rfl EC.out (fun w' h => rput32_makes off (h.rdRowV .head) (by omega)) ?_
      rintro u M rfl
      (refine Za rfl rfl rfl rfl rfl ?_; refine hx_nil ?_)
      exact hq_met u trivial (.cons rfl (.cons rfl (.cons rfl .nil))) (fun _ h => h.sub (.cons .head (.cons (.tail .head) .nil)))
  clear y
  rintro y _
  obtain ⟨B2, e2⟩ : ∃ B, B1 ++ (bif (hasL op).contains 111 then p32 off else []) = B := ⟨_, rfl⟩
  have l2 : B2.length ≤ 48 := by
    rw [← e2, List.length_append]
    cases (hasL op).contains 111
    · show _ + 0 ≤ _; omega
    · show _ + (p32 off).length ≤ _; rw [p32_len]; omega
  rw [e2]
  refine hc_meet (Y := Value) (fun y => [(1, .pointer (some ⟨bx, 0, none⟩)), (3, y), (4, .string ⟨(hasL op).toArray⟩)]) (fun y => [RowV byteE 5 y (B2 ++ (bif (hasL op).contains 108 then p32 len else [])), Blk bx (.cells #[.int .i64 client, .int .i64 seq, .int .i64 ack, .int .i64 epoch, .int .i64 op, .int .i64 id, .int .i64 id2, .int .i64 off, .int .i64 len, .string path, .string name, .string name2, .slice da dn dc] 24 (0, 0))]) (fun _ => True) ?_ ?_
  · obtain ⟨b, hb⟩ := hcat 108
    rw [hb]
    (refine Zw rfl rfl rfl rfl rfl ?_; refine hx_plain rfl ?_)
    refine h_callR rfl rfl rfl rfl rfl rfl EC.out ((in_spec (hasL op) 108 (hasL_len op)).reads _) ?_
    rw [hb]
    cases b
    · (refine Zt ?_; refine hc_condF rfl ?_; refine hc_skip ?_)
      exact hq_met y trivial (.cons rfl (.cons rfl (.cons rfl .nil))) (fun _ h => by rw [show (bif false then p32 len else []) = [] from rfl, List.append_nil]; exact h)
    · (refine Zt ?_; refine hc_condT rfl ?_; refine hc_lex ?_; refine Zm rfl rfl rfl rfl rfl ?_; refine Zf rfl rfl rfl rfl rfl ?_; refine hx_plain rfl ?_; refine h_load rfl rfl UC.out rfl (.tail .head) rfl rfl rfl ?_; refine hx_plain rfl ?_)
      refine h_callW (post := fun u M => M = [RowV byteE 5 u (B2 ++ p32 len)]) rfl rfl rfl rfl rfl rfl rfl rfl EC.out (fun w' h => rput32_makes len (h.rdRowV .head) (by omega)) ?_
      rintro u M rfl
      (refine Za rfl rfl rfl rfl rfl ?_; refine hx_nil ?_)
      exact hq_met u trivial (.cons rfl (.cons rfl (.cons rfl .nil))) (fun _ h => h.sub (.cons .head (.cons (.tail .head) .nil)))
  clear y
  rintro y _
  obtain ⟨B3, e3⟩ : ∃ B, B2 ++ (bif (hasL op).contains 108 then p32 len else []) = B := ⟨_, rfl⟩
  have l3 : B3.length ≤ 52 := by
    rw [← e3, List.length_append]
    cases (hasL op).contains 108
    · show _ + 0 ≤ _; omega
    · show _ + (p32 len).length ≤ _; rw [p32_len]; omega
  rw [e3]
  refine hc_meet (Y := Value) (fun y => [(1, .pointer (some ⟨bx, 0, none⟩)), (3, y), (4, .string ⟨(hasL op).toArray⟩)]) (fun y => [RowV byteE 5 y (B3 ++ (bif (hasL op).contains 112 then fieldB (strBytes path) else [])), Blk bx (.cells #[.int .i64 client, .int .i64 seq, .int .i64 ack, .int .i64 epoch, .int .i64 op, .int .i64 id, .int .i64 id2, .int .i64 off, .int .i64 len, .string path, .string name, .string name2, .slice da dn dc] 24 (0, 0))]) (fun _ => True) ?_ ?_
  · obtain ⟨b, hb⟩ := hcat 112
    rw [hb]
    (refine Zw rfl rfl rfl rfl rfl ?_; refine hx_plain rfl ?_)
    refine h_callR rfl rfl rfl rfl rfl rfl EC.out ((in_spec (hasL op) 112 (hasL_len op)).reads _) ?_
    rw [hb]
    cases b
    · (refine Zt ?_; refine hc_condF rfl ?_; refine hc_skip ?_)
      exact hq_met y trivial (.cons rfl (.cons rfl (.cons rfl .nil))) (fun _ h => by rw [show (bif false then fieldB (strBytes path) else []) = [] from rfl, List.append_nil]; exact h)
    · (refine Zt ?_; refine hc_condT rfl ?_; refine hc_lex ?_; refine Zm rfl rfl rfl rfl rfl ?_; refine Zf rfl rfl rfl rfl rfl ?_; refine hx_plain rfl ?_; refine h_load rfl rfl UC.out rfl (.tail .head) rfl rfl rfl ?_; refine hx_plain rfl ?_)
      refine h_callW (post := fun u M => M = [RowV byteE 5 u (B3 ++ fieldB (strBytes path))]) rfl rfl rfl rfl rfl rfl rfl rfl EC.out (fun w' h => rputText_makes (h.rdRowV .head) (by omega)) ?_
      rintro u M rfl
      (refine Za rfl rfl rfl rfl rfl ?_; refine hx_nil ?_)
      exact hq_met u trivial (.cons rfl (.cons rfl (.cons rfl .nil))) (fun _ h => h.sub (.cons .head (.cons (.tail .head) .nil)))
  clear y
  rintro y _
  obtain ⟨B4, e4⟩ : ∃ B, B3 ++ (bif (hasL op).contains 112 then fieldB (strBytes path) else []) = B := ⟨_, rfl⟩
  have l4 : B4.length ≤ 1059 := by
    rw [← e4, List.length_append]
    cases (hasL op).contains 112
    · show _ + 0 ≤ _; omega
    · show _ + (fieldB (strBytes path)).length ≤ _; have := tx path; omega
  rw [e4]
  refine hc_meet (Y := Value) (fun y => [(1, .pointer (some ⟨bx, 0, none⟩)), (3, y), (4, .string ⟨(hasL op).toArray⟩)]) (fun y => [RowV byteE 5 y (B4 ++ (bif (hasL op).contains 110 then fieldB (strBytes name) else [])), Blk bx (.cells #[.int .i64 client, .int .i64 seq, .int .i64 ack, .int .i64 epoch, .int .i64 op, .int .i64 id, .int .i64 id2, .int .i64 off, .int .i64 len, .string path, .string name, .string name2, .slice da dn dc] 24 (0, 0))]) (fun _ => True) ?_ ?_
  · obtain ⟨b, hb⟩ := hcat 110
    rw [hb]
    (refine Zw rfl rfl rfl rfl rfl ?_; refine hx_plain rfl ?_)
    refine h_callR rfl rfl rfl rfl rfl rfl EC.out ((in_spec (hasL op) 110 (hasL_len op)).reads _) ?_
    rw [hb]
    cases b
    · (refine Zt ?_; refine hc_condF rfl ?_; refine hc_skip ?_)
      exact hq_met y trivial (.cons rfl (.cons rfl (.cons rfl .nil))) (fun _ h => by rw [show (bif false then fieldB (strBytes name) else []) = [] from rfl, List.append_nil]; exact h)
    · (refine Zt ?_; refine hc_condT rfl ?_; refine hc_lex ?_; refine Zm rfl rfl rfl rfl rfl ?_; refine Zf rfl rfl rfl rfl rfl ?_; refine hx_plain rfl ?_; refine h_load rfl rfl UC.out rfl (.tail .head) rfl rfl rfl ?_; refine hx_plain rfl ?_)
      refine h_callW (post := fun u M => M = [RowV byteE 5 u (B4 ++ fieldB (strBytes name))]) rfl rfl rfl rfl rfl rfl rfl rfl EC.out (fun w' h => rputText_makes (h.rdRowV .head) (by omega)) ?_
      rintro u M rfl
      (refine Za rfl rfl rfl rfl rfl ?_; refine hx_nil ?_)
      exact hq_met u trivial (.cons rfl (.cons rfl (.cons rfl .nil))) (fun _ h => h.sub (.cons .head (.cons (.tail .head) .nil)))
  clear y
  rintro y _
  obtain ⟨B5, e5⟩ : ∃ B, B4 ++ (bif (hasL op).contains 110 then fieldB (strBytes name) else []) = B := ⟨_, rfl⟩
  have l5 : B5.length ≤ 2066 := by
    rw [← e5, List.length_append]
    cases (hasL op).contains 110
    · show _ + 0 ≤ _; omega
    · show _ + (fieldB (strBytes name)).length ≤ _; have := tx name; omega
  rw [e5]
  refine hc_meet (Y := Value) (fun y => [(1, .pointer (some ⟨bx, 0, none⟩)), (3, y), (4, .string ⟨(hasL op).toArray⟩)]) (fun y => [RowV byteE 5 y (B5 ++ (bif (hasL op).contains 106 then p64 id2 else [])), Blk bx (.cells #[.int .i64 client, .int .i64 seq, .int .i64 ack, .int .i64 epoch, .int .i64 op, .int .i64 id, .int .i64 id2, .int .i64 off, .int .i64 len, .string path, .string name, .string name2, .slice da dn dc] 24 (0, 0))]) (fun _ => True) ?_ ?_
  · obtain ⟨b, hb⟩ := hcat 106
    rw [hb]
    (refine Zw rfl rfl rfl rfl rfl ?_; refine hx_plain rfl ?_)
    refine h_callR rfl rfl rfl rfl rfl rfl EC.out ((in_spec (hasL op) 106 (hasL_len op)).reads _) ?_
    rw [hb]
    cases b
    · (refine Zt ?_; refine hc_condF rfl ?_; refine hc_skip ?_)
      exact hq_met y trivial (.cons rfl (.cons rfl (.cons rfl .nil))) (fun _ h => by rw [show (bif false then p64 id2 else []) = [] from rfl, List.append_nil]; exact h)
    · (refine Zt ?_; refine hc_condT rfl ?_; refine hc_lex ?_; refine Zm rfl rfl rfl rfl rfl ?_; refine Zf rfl rfl rfl rfl rfl ?_; refine hx_plain rfl ?_; refine h_load rfl rfl UC.out rfl (.tail .head) rfl rfl rfl ?_; refine hx_plain rfl ?_)
      refine h_callW (post := fun u M => M = [RowV byteE 5 u (B5 ++ p64 id2)]) rfl rfl rfl rfl rfl rfl rfl rfl EC.out (fun w' h => rput64_makes id2 (h.rdRowV .head) (by omega)) ?_
      rintro u M rfl
      (refine Za rfl rfl rfl rfl rfl ?_; refine hx_nil ?_)
      exact hq_met u trivial (.cons rfl (.cons rfl (.cons rfl .nil))) (fun _ h => h.sub (.cons .head (.cons (.tail .head) .nil)))
  clear y
  rintro y _
  obtain ⟨B6, e6⟩ : ∃ B, B5 ++ (bif (hasL op).contains 106 then p64 id2 else []) = B := ⟨_, rfl⟩
  have l6 : B6.length ≤ 2074 := by
    rw [← e6, List.length_append]
    cases (hasL op).contains 106
    · show _ + 0 ≤ _; omega
    · show _ + (p64 id2).length ≤ _; rw [p64_len]; omega
  rw [e6]
  refine hc_meet (Y := Value) (fun y => [(1, .pointer (some ⟨bx, 0, none⟩)), (3, y), (4, .string ⟨(hasL op).toArray⟩)]) (fun y => [RowV byteE 5 y (B6 ++ (bif (hasL op).contains 109 then fieldB (strBytes name2) else [])), Blk bx (.cells #[.int .i64 client, .int .i64 seq, .int .i64 ack, .int .i64 epoch, .int .i64 op, .int .i64 id, .int .i64 id2, .int .i64 off, .int .i64 len, .string path, .string name, .string name2, .slice da dn dc] 24 (0, 0))]) (fun _ => True) ?_ ?_
  · obtain ⟨b, hb⟩ := hcat 109
    rw [hb]
    (refine Zw rfl rfl rfl rfl rfl ?_; refine hx_plain rfl ?_)
    refine h_callR rfl rfl rfl rfl rfl rfl EC.out ((in_spec (hasL op) 109 (hasL_len op)).reads _) ?_
    rw [hb]
    cases b
    · (refine Zt ?_; refine hc_condF rfl ?_; refine hc_skip ?_)
      exact hq_met y trivial (.cons rfl (.cons rfl (.cons rfl .nil))) (fun _ h => by rw [show (bif false then fieldB (strBytes name2) else []) = [] from rfl, List.append_nil]; exact h)
    · (refine Zt ?_; refine hc_condT rfl ?_; refine hc_lex ?_; refine Zm rfl rfl rfl rfl rfl ?_; refine Zf rfl rfl rfl rfl rfl ?_; refine hx_plain rfl ?_; refine h_load rfl rfl UC.out rfl (.tail .head) rfl rfl rfl ?_; refine hx_plain rfl ?_)
      refine h_callW (post := fun u M => M = [RowV byteE 5 u (B6 ++ fieldB (strBytes name2))]) rfl rfl rfl rfl rfl rfl rfl rfl EC.out (fun w' h => rputText_makes (h.rdRowV .head) (by omega)) ?_
      rintro u M rfl
      (refine Za rfl rfl rfl rfl rfl ?_; refine hx_nil ?_)
      exact hq_met u trivial (.cons rfl (.cons rfl (.cons rfl .nil))) (fun _ h => h.sub (.cons .head (.cons (.tail .head) .nil)))
  clear y
  rintro y _
  obtain ⟨B7, e7⟩ : ∃ B, B6 ++ (bif (hasL op).contains 109 then fieldB (strBytes name2) else []) = B := ⟨_, rfl⟩
  have l7 : B7.length ≤ 3081 := by
    rw [← e7, List.length_append]
    cases (hasL op).contains 109
    · show _ + 0 ≤ _; omega
    · show _ + (fieldB (strBytes name2)).length ≤ _; have := tx name2; omega
  rw [e7]
  refine hc_meet (Y := Value) (fun y => [(1, .pointer (some ⟨bx, 0, none⟩)), (3, y), (4, .string ⟨(hasL op).toArray⟩)]) (fun y => [RowV byteE 5 y (B7 ++ (bif (hasL op).contains 100 then fieldB ds else [])), Blk bx (.cells #[.int .i64 client, .int .i64 seq, .int .i64 ack, .int .i64 epoch, .int .i64 op, .int .i64 id, .int .i64 id2, .int .i64 off, .int .i64 len, .string path, .string name, .string name2, .slice da dn dc] 24 (0, 0))]) (fun _ => True) ?_ ?_
  · obtain ⟨b, hb⟩ := hcat 100
    rw [hb]
    (refine Zw rfl rfl rfl rfl rfl ?_; refine hx_plain rfl ?_)
    refine h_callR rfl rfl rfl rfl rfl rfl EC.out ((in_spec (hasL op) 100 (hasL_len op)).reads _) ?_
    rw [hb]
    cases b
    · (refine Zt ?_; refine hc_condF rfl ?_; refine hc_skip ?_)
      exact hq_met y trivial (.cons rfl (.cons rfl (.cons rfl .nil))) (fun _ h => by rw [show (bif false then fieldB ds else []) = [] from rfl, List.append_nil]; exact h)
    · (refine Zt ?_; refine hc_condT rfl ?_; refine hc_lex ?_; refine Zm rfl rfl rfl rfl rfl ?_; refine Zf rfl rfl rfl rfl rfl ?_; refine hx_plain rfl ?_; refine h_load rfl rfl UC.out rfl (.tail .head) rfl rfl rfl ?_; refine hx_plain rfl ?_)
      refine h_callW (post := fun u M => M = [RowV byteE 5 u (B7 ++ fieldB ds)]) rfl rfl rfl rfl rfl rfl rfl rfl EC.out (fun w' h => rputBytes_makes (h.rdRowV .head) (hd.but h.but) (by omega)) ?_
      rintro u M rfl
      (refine Za rfl rfl rfl rfl rfl ?_; refine hx_nil ?_)
      exact hq_met u trivial (.cons rfl (.cons rfl (.cons rfl .nil))) (fun _ h => h.sub (.cons .head (.cons (.tail .head) .nil)))
  clear y
  rintro y _
  obtain ⟨B8, e8⟩ : ∃ B, B7 ++ (bif (hasL op).contains 100 then fieldB ds else []) = B := ⟨_, rfl⟩
  have l8 : B8.length ≤ 5088 := by
    rw [← e8, List.length_append]
    cases (hasL op).contains 100
    · show _ + 0 ≤ _; omega
    · show _ + (fieldB ds).length ≤ _; have := fieldB_lens ds; omega
  rw [e8]
  (refine Zw rfl rfl rfl rfl rfl ?_; refine Zn rfl rfl rfl rfl rfl ?_; refine hc_ret ?_)
  refine hq_ret1 (.inr rfl) rfl rfl rfl (fun _ h => ?_)
  rw [← List.append_assoc, ← List.append_assoc, ← List.append_assoc, ← List.append_assoc, ← List.append_assoc, ← List.append_assoc, ← List.append_assoc, e1, e2, e3, e4, e5, e6, e7, e8]
  exact h.sub (.cons .head .nil)
theorem closed_makes {w : World} {v : Value} {bs : List Int} (h1 : Rd byteE w v bs) (hl : bs.length ≤ 1000000) : Makes Tryz.prog 59 [v] w (fun u M => M = [RowV byteE 5 u (sealed bs)]) := by
  refine makes_of Tryz.func59 rfl rfl (Nat.le_of_ble_eq_true rfl) ?_
  (refine Zx rfl rfl rfl rfl rfl ?_; refine Zw rfl rfl rfl rfl rfl ?_; refine Zm rfl rfl rfl rfl rfl ?_; refine hx_plain rfl ?_)
  refine h_callRd rfl rfl rfl rfl rfl rfl EC.out (fun w' h => rsum_reads (h1.but h.but)) ?_
  (refine hx_plain rfl ?_)
  refine h_callW (post := fun u M => M = [RowV byteE 5 u (sealed bs)]) rfl rfl rfl rfl rfl rfl rfl rfl EC.out (fun w' h => rputSum_makes (sumR off0 bs) (sum0_in bs) (h1.but h.but) (by omega)) ?_
  rintro u M rfl
  (refine Zn rfl rfl rfl rfl rfl ?_; refine hc_ret ?_)
  exact hq_ret1 (.inr rfl) rfl rfl rfl (fun _ h => h)
theorem chk_sizes {r : ReqV} {ds : List Int} (hd : ds.length = r.dv.len) (h : r.chk = 0) : r.path.size ≤ 1000 ∧ r.name.size ≤ 1000 ∧ r.name2.size ≤ 1000 ∧ ds.length ≤ 2000 := by
  obtain ⟨hh, _, _⟩ := chk_ok h
  have hg : r.good = true := by
    unfold ReqV.chk at h
    rw [if_pos hh] at h
    split at h
    · assumption
    · cases h
  rw [good_eq (head_op hh)] at hg
  simp only [Bool.and_eq_true] at hg
  obtain ⟨⟨⟨⟨⟨⟨⟨g1, g2⟩, g3⟩, g4⟩, g5⟩, g6⟩, g7⟩, g8⟩ := hg
  have nl : ∀ s : ByteArray, nilS s = true → s.size ≤ 1000 := fun s h => by rw [nilS_eq h]; decide
  refine ⟨?_, ?_, ?_, ?_⟩
  · cases h1 : (hasL r.op).contains 112 with
    | true => rw [h1] at g1; exact Nat.le_trans (pth_size2 g1) (by decide)
    | false => rw [h1] at g1; exact nl _ g1
  · cases h1 : (hasL r.op).contains 110 with
    | true =>
      rw [h1] at g5
      rcases (Bool.or_eq_true _ _).mp g5 with g | g
      · exact Nat.le_trans (nm_size2 g) (by decide)
      · exact nl _ ((Bool.and_eq_true _ _).mp g).2
    | false => rw [h1] at g5; exact nl _ g5
  · cases h1 : (hasL r.op).contains 109 with
    | true => rw [h1] at g7; exact Nat.le_trans (nm_size2 g7) (by decide)
    | false => rw [h1] at g7; exact nl _ g7
  · cases h1 : (hasL r.op).contains 100 with
    | true => rw [h1] at g8; have := of_decide_eq_true g8; omega
    | false => rw [h1] at g8; have := of_decide_eq_true g8; omega
set_option maxHeartbeats 4000000 in
theorem rencodeRequest_makes {w : World} (r : ReqV) {ds : List Int} (hs : r.path.size ≤ 1048576) (hd : Rd byteE w r.dv.v ds) : Makes Tryz.prog 24 [Value.agg r.cs] w (fun u M => ∃ sl : SlV, u = .tuple #[sl.v, .int .i64 r.chk] ∧ M = [RowV byteE 5 sl.v (encReq r ds)]) := by
  have hdl : ds.length = r.dv.len := by
    obtain ⟨_, _, e, _⟩ := hd
    unfold SlV.v at e
    injection e with _ e _
    exact e.symm
  obtain ⟨r0, hr0⟩ : ∃ r0, r0 = r := ⟨_, rfl⟩
  rw [← hr0] at hs hd hdl
  obtain ⟨client, seq, ack, epoch, op, id, id2, off, len, path, name, name2, ⟨da, dn, dc⟩⟩ := r
  dsimp only [ReqV.cs, SlV.v]
  rw [← hr0]
  refine makes_of Tryz.func24 rfl rfl (Nat.le_of_ble_eq_true rfl) ?_
  (refine Zl rfl ?_; (refine h_box rfl rfl rfl rfl rfl rfl (fun _ => ?_)); refine Za rfl rfl rfl rfl rfl ?_; refine Zn rfl rfl rfl rfl rfl ?_; refine Zl rfl ?_)
  refine h_loadP (cs' := #[.int .i64 client, .int .i64 seq, .int .i64 ack, .int .i64 epoch, .int .i64 op, .int .i64 id, .int .i64 id2, .int .i64 off, .int .i64 len, .string path, .string name, .string name2, .slice da dn dc]) rfl rfl UC.out rfl IC.size .head rfl (by kernel_rfl) rfl rfl ?_
  (refine hx_plain rfl ?_)
  refine h_callRd (v := .int .i64 r0.chk) rfl rfl rfl rfl rfl rfl EC.out (fun w' h => by have := rcheckRequest_reads (w := w') r0 hs; rw [hr0] at this ⊢; exact this) ?_
  by_cases hh : r0.chk = 0
  · rw [hh]
    obtain ⟨z1, z2, z3, z4⟩ := chk_sizes hdl hh
    have ho := head_op (chk_ok hh).1
    have henc : encReq r0 ds = sealed (hdQ r0 ++ encQ r0 ds (rqFs r0.op)) := by unfold encReq; rw [if_pos hh]
    have hel : (hdQ r0 ++ encQ r0 ds (rqFs r0.op)).length ≤ 1000000 := by
      have h1 := encQ_cap hdl _ (chk_ok hh).2.1
      have h2 := rqFs_cap ho
      rw [List.length_append, hdQ_len]
      omega
    rw [henc]
    (refine Zn rfl rfl rfl rfl rfl ?_; refine hc_seq ?_; refine Zw rfl rfl rfl rfl rfl ?_; refine Zc rfl rfl rfl rfl rfl rfl rfl ?_; refine Zt ?_; refine hc_condF rfl ?_; refine hc_skip ?_; refine hq_then ?_; refine Zl rfl ?_)
    refine h_loadP (cs' := #[.int .i64 client, .int .i64 seq, .int .i64 ack, .int .i64 epoch, .int .i64 op, .int .i64 id, .int .i64 id2, .int .i64 off, .int .i64 len, .string path, .string name, .string name2, .slice da dn dc]) rfl rfl UC.out rfl IC.size .head rfl (by kernel_rfl) rfl rfl ?_
    (refine hx_plain rfl ?_)
    refine h_callW (post := fun u M => M = [RowV byteE 5 u (hdQ r0 ++ encQ r0 ds (rqFs r0.op))]) rfl rfl rfl rfl rfl rfl rfl rfl EC.out (fun w' h => by have := reqBytes_makes (w := w') r0 ho z1 z2 z3 z4 (hd.but h.but); rw [hr0] at this ⊢; exact this) ?_
    rintro u M rfl
    (refine hx_plain rfl ?_)
    refine h_callW (post := fun u M => M = [RowV byteE 5 u (sealed (hdQ r0 ++ encQ r0 ds (rqFs r0.op)))]) rfl rfl rfl rfl rfl rfl rfl rfl EC.out (fun w' h => closed_makes (h.rdRowV .head) hel) ?_
    rintro u2 M rfl
    (refine Za rfl rfl rfl rfl rfl ?_; refine Zn rfl rfl rfl rfl rfl ?_; refine hc_ret ?_)
    refine hq_know (fun _ h => St.rowV_shapeS h .head) ?_
    rintro ⟨a7, c7, rfl⟩
    exact hq_ret2 (.inr rfl) rfl rfl rfl ⟨⟨a7, _, c7⟩, rfl, rfl⟩ (fun _ h => h.sub (.cons .head .nil))
  · obtain ⟨h0, hh0⟩ : ∃ h0, r0.chk = h0 := ⟨_, rfl⟩
    have henc : encReq r0 ds = [] := by unfold encReq; rw [if_neg hh]
    rw [henc, hh0]
    rw [hh0] at hh
    (refine Zn rfl rfl rfl rfl rfl ?_; refine hc_seq ?_; refine Zw rfl rfl rfl rfl rfl ?_; refine Zc rfl rfl rfl rfl rfl rfl rfl ?_; refine Zt ?_; refine hc_condDT rfl (by omega) ?_; refine Zw rfl rfl rfl rfl rfl ?_; refine Za rfl rfl rfl rfl rfl ?_; refine Zn rfl rfl rfl rfl rfl ?_; refine hc_ret ?_; refine hq_ret_then ?_)
    exact hq_ret2 (.inr rfl) rfl rfl rfl ⟨⟨none, 0, 0⟩, rfl, rfl⟩ (fun _ h => St.rowV_nil h.emp)
end Go.Proofs.YtfolhmlldoepfaaGreatDoor
namespace Go.Proofs.YtfolhmlldoepfaaGreatDoor
open Go Go.Proofs Go.RowKit
set_option maxRecDepth 4000
theorem repBytes_eq {r : RepV} {ds : List Int} {es : List EntV} (ho : 1 ≤ r.op ∧ r.op ≤ 10) : encP r ds es (rpFs' r) = (bif (givL r.status r.op).contains 97 then p64 r.aid ++ p32 r.akind ++ p32 r.asize ++ p64 r.achange else []) ++ (bif (givL r.status r.op).contains 100 then fieldB ds else []) ++ (bif (givL r.status r.op).contains 116 then (p32 (es.length : Int) ++ es.flatMap entEnc) ++ p32 (if r.more then 1 else 0) else []) := by
  obtain ⟨client, seq, epoch, op, status, aid, akind, asize, achange, ⟨da, dn, dc⟩, ⟨la, ln, lc⟩, more⟩ := r
  dsimp only at ho ⊢
  by_cases hs : status = 0
  · subst hs
    have hc : op = 1 ∨ op = 2 ∨ op = 3 ∨ op = 4 ∨ op = 5 ∨ op = 6 ∨ op = 7 ∨ op = 8 ∨ op = 9 ∨ op = 10 := by omega
    rcases hc with rfl | rfl | rfl | rfl | rfl | rfl | rfl | rfl | rfl | rfl
    all_goals
      simp [rpFs', rpFs, askP, fldP, encP, RpF.enc, givL, listEnc]
  · simp [rpFs', encP, givL, hs]
set_option maxHeartbeats 8000000 in
theorem repBytes_makes {w : World} (r : RepV) {ds : List Int} {es : List EntV} (ho : 1 ≤ r.op ∧ r.op ≤ 10) (hdl : ds.length ≤ 2000) (hel : (es.flatMap entEnc).length ≤ 10000 ∧ es.length ≤ 16) (hd : Rd byteE w r.dv.v ds) (hl : Rd entE w r.lv.v es) :
    Makes Tryz.prog 61 [Value.agg r.cs] w (fun u M => M = [RowV byteE 5 u (hdP r ++ encP r ds es (rpFs' r))]) := by
  rw [repBytes_eq ho]
  obtain ⟨hq, hhq⟩ : ∃ l, hdP r = l := ⟨_, rfl⟩
  have hql : hq.length = 32 := by rw [← hhq]; exact hdP_len r
  rw [hhq]
  obtain ⟨client, seq, epoch, op, status, aid, akind, asize, achange, ⟨da, dn, dc⟩, ⟨la, ln, lc⟩, more⟩ := r
  obtain ⟨_, _, e, l1, m1, k1⟩ := id hl
  unfold maxLen at m1
  dsimp only [SlV.v] at e
  injection e with e1' e2' e3'
  subst e1' e2' e3'
  dsimp only [RepV.cs, SlV.v] at ho hd hl ⊢
  have hhq' : hq = [65, 78, 82, 49] ++ p32 client ++ p64 seq ++ p64 epoch ++ p32 op ++ p32 status := hhq.symm
  have hcat : ∀ b : UInt8, ∃ v : Bool, (givL status op).contains b = v := fun b => ⟨_, rfl⟩
  refine makes_of Tryz.func61 rfl rfl (Nat.le_of_ble_eq_true rfl) ?_
  (refine Zl rfl ?_; (refine h_box rfl rfl rfl rfl rfl rfl (fun _ => ?_)); refine Zn rfl rfl rfl rfl rfl ?_; refine Zl rfl ?_; (refine h_buildSliceB rfl rfl rfl UC.out IC.size IC.zero rfl rfl rfl (by omega) rfl rfl (fun _ => ?_)); refine hx_plain rfl ?_)
  refine h_convMark rfl rfl rfl rfl UC.out UC.out .head rfl rfl (fun fz => ?_)
  (refine Zn rfl rfl rfl rfl rfl ?_; refine Zw rfl rfl rfl rfl rfl ?_; refine Zf rfl rfl rfl rfl rfl ?_; refine hx_plain rfl ?_; refine h_load rfl rfl UC.out rfl (.tail .head) rfl rfl rfl ?_; refine hx_plain rfl ?_)
  refine h_callW (post := fun u M => M = [RowV byteE 5 u ([65, 78, 82, 49] ++ p32 client)]) rfl rfl rfl rfl rfl rfl rfl rfl EC.out (fun w' h => rput32_makes client (bs := [65, 78, 82, 49]) (St.rdHolds (E := byteE) (St.blk_holds [65, 78, 82, 49] h rfl (by decide) (flat_row byteE [65, 78, 82, 49])) .head (.head _)) (by decide)) ?_
  rintro u1 M rfl
  (refine Zn rfl rfl rfl rfl rfl ?_)
  rename_i bx bm
  refine hc_st (C' := St w nowhere [RowV byteE 5 u1 ([65, 78, 82, 49] ++ p32 client), Blk bx (.cells #[.int .i64 client, .int .i64 seq, .int .i64 epoch, .int .i64 op, .int .i64 status, .int .i64 aid, .int .i64 akind, .int .i64 asize, .int .i64 achange, .slice da dn dc, .slice la es.length lc, .bool more] 30 (0, 0))]) (fun _ h => by (refine St.sub ?_ h; refine .cons .head ?_; refine .cons (.tail .head) ?_; exact .nil)) ?_
  (refine Zw rfl rfl rfl rfl rfl ?_; refine Zf rfl rfl rfl rfl rfl ?_; refine hx_plain rfl ?_; refine h_load rfl rfl UC.out rfl (.tail .head) rfl rfl rfl ?_; refine hx_plain rfl ?_)
  refine h_callW (post := fun u M => M = [RowV byteE 5 u (([65, 78, 82, 49] ++ p32 client) ++ p64 seq)]) rfl rfl rfl rfl rfl rfl rfl rfl EC.out (fun w' h => rput64_makes seq (h.rdRowV .head) (by rw [List.length_append, p32_len]; decide)) ?_
  rintro u2 M rfl
  (refine Zn rfl rfl rfl rfl rfl ?_; refine Zw rfl rfl rfl rfl rfl ?_; refine Zf rfl rfl rfl rfl rfl ?_; refine hx_plain rfl ?_; refine h_load rfl rfl UC.out rfl (.tail (.tail .head)) rfl rfl rfl ?_; refine hx_plain rfl ?_)
  refine h_callW (post := fun u M => M = [RowV byteE 5 u ((([65, 78, 82, 49] ++ p32 client) ++ p64 seq) ++ p64 epoch)]) rfl rfl rfl rfl rfl rfl rfl rfl EC.out (fun w' h => rput64_makes epoch (h.rdRowV .head) (by rw [List.length_append, List.length_append, p32_len, p64_len]; decide)) ?_
  rintro u3 M rfl
  (refine Zn rfl rfl rfl rfl rfl ?_)
  refine hc_st (C' := St w nowhere [RowV byteE 5 u3 ((([65, 78, 82, 49] ++ p32 client) ++ p64 seq) ++ p64 epoch), Blk bx (.cells #[.int .i64 client, .int .i64 seq, .int .i64 epoch, .int .i64 op, .int .i64 status, .int .i64 aid, .int .i64 akind, .int .i64 asize, .int .i64 achange, .slice da dn dc, .slice la es.length lc, .bool more] 30 (0, 0))]) (fun _ h => by (refine St.sub ?_ h; refine .cons .head ?_; refine .cons (.tail (.tail .head)) ?_; exact .nil)) ?_
  (refine Zw rfl rfl rfl rfl rfl ?_; refine Zf rfl rfl rfl rfl rfl ?_; refine hx_plain rfl ?_; refine h_load rfl rfl UC.out rfl (.tail .head) rfl rfl rfl ?_; refine hx_plain rfl ?_)
  refine h_callW (post := fun u M => M = [RowV byteE 5 u (((([65, 78, 82, 49] ++ p32 client) ++ p64 seq) ++ p64 epoch) ++ p32 op)]) rfl rfl rfl rfl rfl rfl rfl rfl EC.out (fun w' h => rput32_makes op (h.rdRowV .head) (by rw [List.length_append, List.length_append, List.length_append, p32_len, p64_len, p64_len]; decide)) ?_
  rintro u4 M rfl
  (refine Zn rfl rfl rfl rfl rfl ?_; refine Zw rfl rfl rfl rfl rfl ?_; refine Zf rfl rfl rfl rfl rfl ?_; refine hx_plain rfl ?_; refine h_load rfl rfl UC.out rfl (.tail (.tail .head)) rfl rfl rfl ?_; refine hx_plain rfl ?_)
  refine h_callR rfl rfl rfl rfl rfl rfl EC.out ((rnum_spec status).reads _) ?_
  (refine hx_plain rfl ?_)
  refine h_callW (post := fun u M => M = [RowV byteE 5 u hq]) rfl rfl rfl rfl rfl rfl rfl rfl EC.out (fun w' h => by rw [hhq']; exact rput32_makes status (h.rdRowV .head) (by rw [List.length_append, List.length_append, List.length_append, List.length_append, p32_len, p32_len, p64_len, p64_len]; decide)) ?_
  rintro u5 M rfl
  (refine Zn rfl rfl rfl rfl rfl ?_; refine Zl rfl ?_)
  refine h_loadP (cs' := #[.int .i64 client, .int .i64 seq, .int .i64 epoch, .int .i64 op, .int .i64 status, .int .i64 aid, .int .i64 akind, .int .i64 asize, .int .i64 achange, .slice da dn dc, .slice la es.length lc, .bool more]) rfl rfl UC.out rfl IC.size (.tail (.tail (.tail .head))) rfl (by kernel_rfl) rfl rfl ?_
  (refine hx_plain rfl ?_)
  refine h_callR rfl rfl rfl rfl rfl rfl EC.out ((gives_spec ⟨client, seq, epoch, op, status, aid, akind, asize, achange, ⟨da, dn, dc⟩, ⟨la, es.length, lc⟩, more⟩).reads _) ?_
  (refine Zn rfl rfl rfl rfl rfl ?_)
  refine hc_st (C' := St w nowhere [RowV byteE 5 u5 hq, Blk bx (.cells #[.int .i64 client, .int .i64 seq, .int .i64 epoch, .int .i64 op, .int .i64 status, .int .i64 aid, .int .i64 akind, .int .i64 asize, .int .i64 achange, .slice da dn dc, .slice la es.length lc, .bool more] 30 (0, 0))]) (fun _ h => by (refine St.sub ?_ h; refine .cons .head ?_; refine .cons (.tail (.tail .head)) ?_; exact .nil)) ?_
  obtain ⟨y, hy⟩ : ∃ y, u5 = y := ⟨_, rfl⟩
  rw [hy]
  clear hy hhq hhq'
  refine hc_meet (Y := Value) (fun y => [(1, .pointer (some ⟨bx, 0, none⟩)), (3, y), (4, .string ⟨(givL status op).toArray⟩)]) (fun y => [RowV byteE 5 y (hq ++ (bif (givL status op).contains 97 then p64 aid ++ p32 akind ++ p32 asize ++ p64 achange else [])), Blk bx (.cells #[.int .i64 client, .int .i64 seq, .int .i64 epoch, .int .i64 op, .int .i64 status, .int .i64 aid, .int .i64 akind, .int .i64 asize, .int .i64 achange, .slice da dn dc, .slice la es.length lc, .bool more] 30 (0, 0))]) (fun _ => True) ?_ ?_
  · obtain ⟨b, hb⟩ := hcat 97
    rw [hb]
    (refine Zw rfl rfl rfl rfl rfl ?_; refine hx_plain rfl ?_)
    refine h_callR rfl rfl rfl rfl rfl rfl EC.out ((in_spec (givL status op) 97 (givL_len status op)).reads _) ?_
    rw [hb]
    cases b
    · (refine Zt ?_; refine hc_condF rfl ?_; refine hc_skip ?_)
      exact hq_met y trivial (.cons rfl (.cons rfl (.cons rfl .nil))) (fun _ h => by rw [show (bif false then p64 aid ++ p32 akind ++ p32 asize ++ p64 achange else []) = [] from rfl, List.append_nil]; exact h)
    · (refine Zt ?_; refine hc_condT rfl ?_; refine Zw rfl rfl rfl rfl rfl ?_; refine Zf rfl rfl rfl rfl rfl ?_; refine hx_plain rfl ?_; refine h_fieldAddr rfl rfl FC.out rfl rfl ?_; refine hx_plain rfl ?_; refine h_load rfl rfl UC.out rfl (.tail .head) rfl rfl rfl ?_; refine hx_plain rfl ?_)
      refine h_callW (post := fun u M => M = [RowV byteE 5 u (hq ++ p64 aid)]) rfl rfl rfl rfl rfl rfl rfl rfl EC.out (fun w' h => rput64_makes aid (h.rdRowV .head) (by omega)) ?_
      rintro u1 M rfl
      (refine Zn rfl rfl rfl rfl rfl ?_; refine Zw rfl rfl rfl rfl rfl ?_; refine Zf rfl rfl rfl rfl rfl ?_; refine hx_plain rfl ?_; refine h_fieldAddr rfl rfl FC.out rfl rfl ?_; refine hx_plain rfl ?_; refine h_load rfl rfl UC.out rfl (.tail (.tail .head)) rfl rfl rfl ?_; refine hx_plain rfl ?_)
      refine h_callW (post := fun u M => M = [RowV byteE 5 u ((hq ++ p64 aid) ++ p32 akind)]) rfl rfl rfl rfl rfl rfl rfl rfl EC.out (fun w' h => rput32_makes akind (h.rdRowV .head) (by rw [List.length_append, p64_len]; omega)) ?_
      rintro u2 M rfl
      (refine Zn rfl rfl rfl rfl rfl ?_)
      refine hc_st (C' := St w nowhere [RowV byteE 5 u2 ((hq ++ p64 aid) ++ p32 akind), Blk bx (.cells #[.int .i64 client, .int .i64 seq, .int .i64 epoch, .int .i64 op, .int .i64 status, .int .i64 aid, .int .i64 akind, .int .i64 asize, .int .i64 achange, .slice da dn dc, .slice la es.length lc, .bool more] 30 (0, 0))]) (fun _ h => by (refine St.sub ?_ h; refine .cons .head ?_; refine .cons (.tail (.tail .head)) ?_; exact .nil)) ?_
      (refine Zw rfl rfl rfl rfl rfl ?_; refine Zf rfl rfl rfl rfl rfl ?_; refine hx_plain rfl ?_; refine h_fieldAddr rfl rfl FC.out rfl rfl ?_; refine hx_plain rfl ?_; refine h_load rfl rfl UC.out rfl (.tail .head) rfl rfl rfl ?_; refine hx_plain rfl ?_)
      refine h_callW (post := fun u M => M = [RowV byteE 5 u (((hq ++ p64 aid) ++ p32 akind) ++ p32 asize)]) rfl rfl rfl rfl rfl rfl rfl rfl EC.out (fun w' h => rput32_makes asize (h.rdRowV .head) (by rw [List.length_append, List.length_append, p64_len, p32_len]; omega)) ?_
      rintro u3 M rfl
      (refine Zn rfl rfl rfl rfl rfl ?_; refine hc_lex ?_; refine Zm rfl rfl rfl rfl rfl ?_; refine Zf rfl rfl rfl rfl rfl ?_; refine hx_plain rfl ?_; refine h_fieldAddr rfl rfl FC.out rfl rfl ?_; refine hx_plain rfl ?_; refine h_load rfl rfl UC.out rfl (.tail (.tail .head)) rfl rfl rfl ?_; refine hx_plain rfl ?_)
      refine h_callW (post := fun u M => M = [RowV byteE 5 u ((((hq ++ p64 aid) ++ p32 akind) ++ p32 asize) ++ p64 achange)]) rfl rfl rfl rfl rfl rfl rfl rfl EC.out (fun w' h => rput64_makes achange (h.rdRowV .head) (by rw [List.length_append, List.length_append, List.length_append, p64_len, p32_len, p32_len]; omega)) ?_
      rintro u4 M rfl
      (refine Za rfl rfl rfl rfl rfl ?_; refine hx_nil ?_)
      exact hq_met u4 trivial (.cons rfl (.cons rfl (.cons rfl .nil))) (fun _ h => by
        rw [show (bif true then p64 aid ++ p32 akind ++ p32 asize ++ p64 achange else []) = p64 aid ++ p32 akind ++ p32 asize ++ p64 achange from rfl, ← List.append_assoc, ← List.append_assoc, ← List.append_assoc]
        exact h.sub (.cons .head (.cons (.tail (.tail .head)) .nil)))
  clear y
  rintro y _
  obtain ⟨B1, e1⟩ : ∃ B, hq ++ (bif (givL status op).contains 97 then p64 aid ++ p32 akind ++ p32 asize ++ p64 achange else []) = B := ⟨_, rfl⟩
  have q1 : B1.length ≤ 56 := by
    rw [← e1, List.length_append]
    cases (givL status op).contains 97
    · show _ + 0 ≤ _; omega
    · show _ + (p64 aid ++ p32 akind ++ p32 asize ++ p64 achange).length ≤ _
      rw [List.length_append, List.length_append, List.length_append, p64_len, p64_len, p32_len, p32_len]
      omega
  rw [e1]
  refine hc_meet (Y := Value) (fun y => [(1, .pointer (some ⟨bx, 0, none⟩)), (3, y), (4, .string ⟨(givL status op).toArray⟩)]) (fun y => [RowV byteE 5 y (B1 ++ (bif (givL status op).contains 100 then fieldB ds else [])), Blk bx (.cells #[.int .i64 client, .int .i64 seq, .int .i64 epoch, .int .i64 op, .int .i64 status, .int .i64 aid, .int .i64 akind, .int .i64 asize, .int .i64 achange, .slice da dn dc, .slice la es.length lc, .bool more] 30 (0, 0))]) (fun _ => True) ?_ ?_
  · obtain ⟨b, hb⟩ := hcat 100
    rw [hb]
    (refine Zw rfl rfl rfl rfl rfl ?_; refine hx_plain rfl ?_)
    refine h_callR rfl rfl rfl rfl rfl rfl EC.out ((in_spec (givL status op) 100 (givL_len status op)).reads _) ?_
    rw [hb]
    cases b
    · (refine Zt ?_; refine hc_condF rfl ?_; refine hc_skip ?_)
      exact hq_met y trivial (.cons rfl (.cons rfl (.cons rfl .nil))) (fun _ h => by rw [show (bif false then fieldB ds else []) = [] from rfl, List.append_nil]; exact h)
    · (refine Zt ?_; refine hc_condT rfl ?_; refine hc_lex ?_; refine Zm rfl rfl rfl rfl rfl ?_; refine Zf rfl rfl rfl rfl rfl ?_; refine hx_plain rfl ?_; refine h_load rfl rfl UC.out rfl (.tail .head) rfl rfl rfl ?_; refine hx_plain rfl ?_)
      refine h_callW (post := fun u M => M = [RowV byteE 5 u (B1 ++ fieldB ds)]) rfl rfl rfl rfl rfl rfl rfl rfl EC.out (fun w' h => rputBytes_makes (h.rdRowV .head) (hd.but h.but) (by omega)) ?_
      rintro u M rfl
      (refine Za rfl rfl rfl rfl rfl ?_; refine hx_nil ?_)
      exact hq_met u trivial (.cons rfl (.cons rfl (.cons rfl .nil))) (fun _ h => h.sub (.cons .head (.cons (.tail .head) .nil)))
  clear y
  rintro y _
  obtain ⟨B2, e2⟩ : ∃ B, B1 ++ (bif (givL status op).contains 100 then fieldB ds else []) = B := ⟨_, rfl⟩
  have q2 : B2.length ≤ 3000 := by
    have := fieldB_lens ds
    rw [← e2, List.length_append]
    cases (givL status op).contains 100
    · show _ + 0 ≤ _; omega
    · show _ + (fieldB ds).length ≤ _
      omega
  rw [e2]
  refine hc_meet (Y := Value) (fun y => [(1, .pointer (some ⟨bx, 0, none⟩)), (3, y), (4, .string ⟨(givL status op).toArray⟩)]) (fun y => [RowV byteE 5 y (B2 ++ (bif (givL status op).contains 116 then (p32 (es.length : Int) ++ es.flatMap entEnc) ++ p32 (if more then 1 else 0) else []))]) (fun _ => True) ?_ ?_
  · obtain ⟨b, hb⟩ := hcat 116
    rw [hb]
    (refine Zw rfl rfl rfl rfl rfl ?_; refine hx_plain rfl ?_)
    refine h_callR rfl rfl rfl rfl rfl rfl EC.out ((in_spec (givL status op) 116 (givL_len status op)).reads _) ?_
    rw [hb]
    cases b
    · (refine Zt ?_; refine hc_condF rfl ?_; refine hc_skip ?_)
      exact hq_met y trivial (.cons rfl (.cons rfl (.cons rfl .nil))) (fun _ h => by rw [show (bif false then (p32 (es.length : Int) ++ es.flatMap entEnc) ++ p32 (if more then 1 else 0) else []) = [] from rfl, List.append_nil]; exact h.sub (.cons .head .nil))
    have hpre : ∀ i, ((es.take i).flatMap entEnc).length ≤ 10000 := fun i => by
      have h1 : es.flatMap entEnc = (es.take i).flatMap entEnc ++ (es.drop i).flatMap entEnc := by rw [← List.flatMap_append, List.take_append_drop]
      have h2 := hel.1
      rw [h1, List.length_append] at h2
      omega
    (refine Zt ?_; refine hc_condT rfl ?_; refine Zw rfl rfl rfl rfl rfl ?_; refine Zf rfl rfl rfl rfl rfl ?_; refine hx_plain rfl ?_; refine h_load rfl rfl UC.out rfl (.tail .head) rfl rfl rfl ?_; refine hx_plain rfl ?_; refine h_len_slice rfl rfl rfl UC.out rfl rfl rfl ?_; refine hx_plain rfl ?_)
    refine h_callW (post := fun u M => M = [RowV byteE 5 u (B2 ++ p32 (es.length : Int))]) rfl rfl rfl rfl rfl rfl rfl rfl EC.out (fun w' h => rput32_makes _ (h.rdRowV .head) (by omega)) ?_
    rintro u1 M rfl
    (refine Zn rfl rfl rfl rfl rfl ?_; refine hc_seq ?_; refine Zx rfl rfl rfl rfl rfl ?_; refine hc_block ?_)
    refine hc_cut (id := 0) (Y := Value) (fun y => [(1, .pointer (some ⟨bx, 0, none⟩)), (3, y), (4, .string ⟨(givL status op).toArray⟩)]) (fun y => [RowV byteE 5 y (B2 ++ (p32 (es.length : Int) ++ es.flatMap entEnc)), Blk bx (.cells #[.int .i64 client, .int .i64 seq, .int .i64 epoch, .int .i64 op, .int .i64 status, .int .i64 aid, .int .i64 akind, .int .i64 asize, .int .i64 achange, .slice da dn dc, .slice la es.length lc, .bool more] 30 (0, 0))]) (fun _ => True) ?_ ?_
    · refine hc_loop (X := Nat × Value) (fun x => [(1, .pointer (some ⟨bx, 0, none⟩)), (3, x.2), (4, .string ⟨(givL status op).toArray⟩), (5, .int .i64 (x.1 : Int))]) (fun x => [RowV byteE 5 x.2 (B2 ++ (p32 (es.length : Int) ++ (es.take x.1).flatMap entEnc)), Blk bx (.cells #[.int .i64 client, .int .i64 seq, .int .i64 epoch, .int .i64 op, .int .i64 status, .int .i64 aid, .int .i64 akind, .int .i64 asize, .int .i64 achange, .slice da dn dc, .slice la es.length lc, .bool more] 30 (0, 0))]) (fun x => x.1 ≤ es.length) (fun x => es.length - x.1) (0, u1) (.cons rfl (.cons rfl (.cons rfl (.cons rfl .nil)))) (Nat.zero_le _) (fun _ h => ?_) ?_
      · rw [show B2 ++ (p32 (es.length : Int) ++ (es.take (0, u1).1).flatMap entEnc) = B2 ++ p32 (es.length : Int) from by show B2 ++ (p32 (es.length : Int) ++ (es.take 0).flatMap entEnc) = _; rw [List.take_zero, List.flatMap_nil, List.append_nil]]
        exact h.sub (.cons .head (.cons (.tail .head) .nil))
      rintro ⟨i, y⟩ hi
      dsimp only at hi ⊢
      by_cases hlt : i < es.length
      · have hes : es ≠ [] := by
          intro e
          rw [e] at hlt
          exact absurd hlt (Nat.not_lt_zero _)
        obtain ⟨g1, o1, rfl, r1⟩ := k1.resolve_left hes
        obtain ⟨⟨nm, id, kd⟩, hq⟩ : ∃ q, es[i]? = some q := ⟨_, List.getElem?_eq_getElem hlt⟩
        have e1 : es[((i : Nat) : Int).toNat]? = some ⟨nm, id, kd⟩ := hq
        have hp0 := hpre i
        have hp1 := hpre (i + 1)
        have hnx : (es.take (i + 1)).flatMap entEnc = (es.take i).flatMap entEnc ++ (fieldB (strBytes nm) ++ p64 id ++ p32 kd) := by
          rw [List.take_add_one, hq, List.flatMap_append]
          simp [entEnc]
        rw [hnx, List.length_append, List.length_append, List.length_append, p64_len, p32_len] at hp1
        have hq1 := fieldB_lens (strBytes nm)
        have hq2 := strBytes_len nm
        obtain ⟨B3, e3⟩ : ∃ B, B2 ++ (p32 (es.length : Int) ++ (es.take i).flatMap entEnc) = B := ⟨_, rfl⟩
        have q3 : B3.length ≤ 14000 := by rw [← e3, List.length_append, List.length_append, p32_len]; omega
        rw [e3]
        (refine hc_seq ?_; refine Zw rfl rfl rfl rfl rfl ?_; refine Zf rfl rfl rfl rfl rfl ?_; refine hx_plain rfl ?_; refine h_load rfl rfl UC.out rfl (.tail .head) rfl rfl rfl ?_; refine hx_plain rfl ?_; refine h_len_slice rfl rfl rfl UC.out rfl rfl rfl ?_; refine Zc rfl rfl rfl rfl rfl rfl rfl ?_; refine Zt ?_; refine hc_condDT rfl (by omega) ?_; refine hc_skip ?_; refine hq_then ?_; refine hc_seq ?_; refine hc_block ?_; refine Zw rfl rfl rfl rfl rfl ?_; refine Zf rfl rfl rfl rfl rfl ?_; refine hx_plain rfl ?_; refine h_load rfl rfl UC.out rfl (.tail .head) rfl rfl rfl ?_; refine Zm rfl rfl rfl rfl rfl ?_; refine hx_plain rfl ?_; refine h_indexAddr rfl rfl rfl UC.out IC.size (by omega) (by omega) rfl rfl ?_; refine hx_plain rfl ?_; refine h_fieldAddr rfl rfl FC.out rfl rfl ?_; refine hx_plain rfl ?_; refine h_rdLoad rfl r1 rfl UC.out rfl (by with_reducible assumption) rfl rfl rfl ?_; refine hx_plain rfl ?_)
        refine h_callW (post := fun u M => M = [RowV byteE 5 u (B3 ++ fieldB (strBytes nm))]) rfl rfl rfl rfl rfl rfl rfl rfl EC.out (fun w' h => rputText_makes (s := nm) (h.rdRowV .head) (by omega)) ?_
        rintro u2 M rfl
        (refine Zn rfl rfl rfl rfl rfl ?_; refine Zw rfl rfl rfl rfl rfl ?_; refine Zf rfl rfl rfl rfl rfl ?_; refine hx_plain rfl ?_; refine h_load rfl rfl UC.out rfl (.tail (.tail .head)) rfl rfl rfl ?_; refine Zm rfl rfl rfl rfl rfl ?_; refine hx_plain rfl ?_; refine h_indexAddr rfl rfl rfl UC.out IC.size (by omega) (by omega) rfl rfl ?_; refine hx_plain rfl ?_; refine h_fieldAddr rfl rfl FC.out rfl rfl ?_; refine hx_plain rfl ?_; refine h_rdLoad rfl r1 rfl UC.out rfl (by with_reducible assumption) rfl rfl rfl ?_; refine hx_plain rfl ?_)
        refine h_callW (post := fun u M => M = [RowV byteE 5 u ((B3 ++ fieldB (strBytes nm)) ++ p64 id)]) rfl rfl rfl rfl rfl rfl rfl rfl EC.out (fun w' h => rput64_makes _ (h.rdRowV .head) (by rw [List.length_append]; omega)) ?_
        rintro u3 M rfl
        (refine Zn rfl rfl rfl rfl rfl ?_; refine hc_lex ?_; refine Zm rfl rfl rfl rfl rfl ?_; refine Zf rfl rfl rfl rfl rfl ?_; refine hx_plain rfl ?_; refine h_load rfl rfl UC.out rfl (.tail (.tail (.tail .head))) rfl rfl rfl ?_; refine Zm rfl rfl rfl rfl rfl ?_; refine hx_plain rfl ?_; refine h_indexAddr rfl rfl rfl UC.out IC.size (by omega) (by omega) rfl rfl ?_; refine hx_plain rfl ?_; refine h_fieldAddr rfl rfl FC.out rfl rfl ?_; refine hx_plain rfl ?_; refine h_rdLoad rfl r1 rfl UC.out rfl (by with_reducible assumption) rfl rfl rfl ?_; refine hx_plain rfl ?_)
        refine h_callW (post := fun u M => M = [RowV byteE 5 u (((B3 ++ fieldB (strBytes nm)) ++ p64 id) ++ p32 kd)]) rfl rfl rfl rfl rfl rfl rfl rfl EC.out (fun w' h => rput32_makes _ (h.rdRowV .head) (by rw [List.length_append, List.length_append, p64_len]; omega)) ?_
        rintro u4 M rfl
        (refine Za rfl rfl rfl rfl rfl ?_; refine hx_nil ?_; refine hq_norm_block ?_; refine hq_then ?_; refine hc_lex ?_; refine Zm rfl rfl rfl rfl rfl ?_; refine hx_plain rfl ?_; refine h_arithI rfl rfl rfl rfl (by omega) rfl rfl ?_; refine Za rfl rfl rfl rfl rfl ?_; refine hx_nil ?_)
        refine hq_round (i + 1, u4) (by show es.length - (i + 1) < es.length - i; omega) (by show i + 1 ≤ es.length; omega) (.cons rfl (.cons rfl (.cons rfl (.cons rfl .nil)))) (fun _ h => ?_)
        rw [show (i + 1, u4).1 = i + 1 from rfl, hnx, show B2 ++ (p32 (es.length : Int) ++ ((es.take i).flatMap entEnc ++ (fieldB (strBytes nm) ++ p64 id ++ p32 kd))) = ((B3 ++ fieldB (strBytes nm)) ++ p64 id) ++ p32 kd from by rw [← e3]; simp only [List.append_assoc]]
        exact h.sub (.cons .head (.cons (.tail (.tail (.tail .head))) .nil))
      · (refine hc_seq ?_; refine Zw rfl rfl rfl rfl rfl ?_; refine Zf rfl rfl rfl rfl rfl ?_; refine hx_plain rfl ?_; refine h_load rfl rfl UC.out rfl (.tail .head) rfl rfl rfl ?_; refine hx_plain rfl ?_; refine h_len_slice rfl rfl rfl UC.out rfl rfl rfl ?_; refine Zc rfl rfl rfl rfl rfl rfl rfl ?_; refine Zt ?_; refine hc_condDF rfl (by omega) ?_; refine hc_exit ?_; (iterate 2 (refine hq_exit_then ?_)))
        refine hq_cut y trivial (.cons rfl (.cons rfl (.cons rfl .nil))) (fun _ h => ?_)
        rw [List.take_of_length_le (by omega)] at h
        exact h
    clear y
    rintro y _
    have q4 := hpre es.length
    rw [List.take_length] at q4
    obtain ⟨B4, e4⟩ : ∃ B, B2 ++ (p32 (es.length : Int) ++ es.flatMap entEnc) = B := ⟨_, rfl⟩
    have q5 : B4.length ≤ 14000 := by rw [← e4, List.length_append, List.length_append, p32_len]; omega
    rw [e4]
    cases more
    ·
      (refine hq_exit_block ?_; refine hq_then ?_; refine Zx rfl rfl rfl rfl rfl ?_; refine hc_seq ?_; refine Zl rfl ?_; refine h_fieldAddr0 rfl rfl FC.out rfl rfl ?_; refine hx_plain rfl ?_; refine h_load rfl rfl UC.out rfl (.tail .head) rfl rfl rfl ?_; refine Zt ?_; refine hc_condF rfl ?_; refine hc_skip ?_; refine hq_then ?_; refine hc_lex ?_; (iterate 2 (refine Zm rfl rfl rfl rfl rfl ?_)); refine hx_plain rfl ?_)
      refine h_callW (post := fun u M => M = [RowV byteE 5 u (B4 ++ p32 _)]) rfl rfl rfl rfl rfl rfl rfl rfl EC.out (fun w' h => rput32_makes _ (h.rdRowV .head) (by omega)) ?_
      rintro u4 M rfl
      (refine Za rfl rfl rfl rfl rfl ?_; refine hx_nil ?_)
      refine hq_met u4 trivial (.cons rfl (.cons rfl (.cons rfl .nil))) (fun _ h => ?_)
      rw [cond_true, ← List.append_assoc, e4]
      exact h.sub (.cons .head .nil)
    ·
      (refine hq_exit_block ?_; refine hq_then ?_; refine Zx rfl rfl rfl rfl rfl ?_; refine hc_seq ?_; refine Zl rfl ?_; refine h_fieldAddr0 rfl rfl FC.out rfl rfl ?_; refine hx_plain rfl ?_; refine h_load rfl rfl UC.out rfl (.tail .head) rfl rfl rfl ?_; refine Zt ?_; refine hc_condT rfl ?_; refine hc_lex ?_; refine Zn rfl rfl rfl rfl rfl ?_; refine hc_lex ?_; (iterate 2 (refine Zm rfl rfl rfl rfl rfl ?_)); refine hx_plain rfl ?_)
      refine h_callW (post := fun u M => M = [RowV byteE 5 u (B4 ++ p32 _)]) rfl rfl rfl rfl rfl rfl rfl rfl EC.out (fun w' h => rput32_makes _ (h.rdRowV .head) (by omega)) ?_
      rintro u4 M rfl
      (refine Za rfl rfl rfl rfl rfl ?_; refine hx_nil ?_)
      refine hq_met u4 trivial (.cons rfl (.cons rfl (.cons rfl .nil))) (fun _ h => ?_)
      rw [cond_true, ← List.append_assoc, e4]
      exact h.sub (.cons .head .nil)
  clear y
  rintro y _
  (refine Zw rfl rfl rfl rfl rfl ?_; refine Zn rfl rfl rfl rfl rfl ?_; refine hc_ret ?_)
  refine hq_ret1 (.inr rfl) rfl rfl rfl (fun _ h => ?_)
  rw [← List.append_assoc, ← List.append_assoc, e1, e2]
  exact h
theorem chkP_sizes {r : RepV} {ds : List Int} {es : List EntV} (hd : ds.length = r.dv.len) (hl : es.length = r.lv.len) (h : r.chk es = 0) : ds.length ≤ 2000 ∧ (es.flatMap entEnc).length ≤ 10000 ∧ es.length ≤ 16 := by
  obtain ⟨hh, _, _⟩ := chkP_ok h
  have hg : r.good es = true := by
    unfold RepV.chk at h
    rw [if_pos hh] at h
    split at h
    · assumption
    · cases h
  have ho := headP_op hh
  obtain ⟨client, seq, epoch, op, status, aid, akind, asize, achange, ⟨da, dn, dc⟩, ⟨la, ln, lc⟩, more⟩ := r
  dsimp only at hd hl ho
  rw [goodP_eq ho client seq epoch op status aid akind asize achange da la dn dc ln lc more rfl] at hg
  simp only [Bool.and_eq_true] at hg
  obtain ⟨⟨_, g2⟩, g3⟩ := hg
  refine ⟨?_, ?_⟩
  · cases h1 : (givL status op).contains 100 with
    | true => rw [h1] at g2; have := of_decide_eq_true g2; omega
    | false => rw [h1] at g2; have := of_decide_eq_true g2; omega
  · cases h1 : (givL status op).contains 116 with
    | true =>
      rw [h1] at g3
      have g3 := ((Bool.and_eq_true _ _).mp g3).1
      rw [Bool.and_eq_true, decide_eq_true_iff] at g3
      have := list_len es (listB_nm es none g3.1)
      omega
    | false =>
      rw [h1] at g3
      have := of_decide_eq_true ((Bool.and_eq_true _ _).mp g3).1
      obtain rfl := List.eq_nil_of_length_eq_zero (l := es) (by omega)
      exact ⟨Nat.zero_le _, Nat.zero_le _⟩
set_option maxHeartbeats 4000000 in
theorem rencodeReply_makes {w : World} (r : RepV) {ds : List Int} {es : List EntV} (hd : Rd byteE w r.dv.v ds) (hl : Rd entE w r.lv.v es) : Makes Tryz.prog 26 [Value.agg r.cs] w (fun u M => ∃ sl : SlV, u = .tuple #[sl.v, .int .i64 (r.chk es)] ∧ M = [RowV byteE 5 sl.v (encRep r ds es)]) := by
  have hdl : ds.length = r.dv.len := by
    obtain ⟨_, _, e, _⟩ := hd
    unfold SlV.v at e
    injection e with _ e _
    exact e.symm
  have hll : es.length = r.lv.len := by
    obtain ⟨_, _, e, _⟩ := hl
    unfold SlV.v at e
    injection e with _ e _
    exact e.symm
  obtain ⟨r0, hr0⟩ : ∃ r0, r0 = r := ⟨_, rfl⟩
  rw [← hr0] at hd hdl hl hll
  obtain ⟨client, seq, epoch, op, status, aid, akind, asize, achange, ⟨da, dn, dc⟩, ⟨la, ln, lc⟩, more⟩ := r
  dsimp only [RepV.cs, SlV.v]
  rw [← hr0]
  refine makes_of Tryz.func26 rfl rfl (Nat.le_of_ble_eq_true rfl) ?_
  (refine Zl rfl ?_; (refine h_box rfl rfl rfl rfl rfl rfl (fun _ => ?_)); refine Za rfl rfl rfl rfl rfl ?_; refine Zn rfl rfl rfl rfl rfl ?_; refine Zl rfl ?_)
  refine h_loadP (cs' := #[.int .i64 client, .int .i64 seq, .int .i64 epoch, .int .i64 op, .int .i64 status, .int .i64 aid, .int .i64 akind, .int .i64 asize, .int .i64 achange, .slice da dn dc, .slice la ln lc, .bool more]) rfl rfl UC.out rfl IC.size .head rfl (by kernel_rfl) rfl rfl ?_
  (refine hx_plain rfl ?_)
  refine h_callRd (v := .int .i64 (r0.chk es)) rfl rfl rfl rfl rfl rfl EC.out (fun w' h => by have := rcheckReply_reads (w := w') r0 (hl.but h.but); rw [hr0] at this ⊢; exact this) ?_
  by_cases hh : r0.chk es = 0
  · rw [hh]
    obtain ⟨z1, z2, z3⟩ := chkP_sizes hdl hll hh
    have ho := headP_op (chkP_ok hh).1
    have henc : encRep r0 ds es = sealed (hdP r0 ++ encP r0 ds es (rpFs' r0)) := by unfold encRep; rw [if_pos hh]
    have hel : (hdP r0 ++ encP r0 ds es (rpFs' r0)).length ≤ 1000000 := by
      have h1 := (encRep_take hdl hll hh (m := List.replicate 28 0 ++ encP r0 ds es (rpFs' r0)) (by rw [List.drop_append_of_le_length (by rw [List.length_replicate]; exact Nat.le_refl _), List.drop_of_length_le (by rw [List.length_replicate]; exact Nat.le_refl _), List.nil_append])).2
      rw [List.length_append, hdP_len]
      omega
    rw [henc]
    (refine Zn rfl rfl rfl rfl rfl ?_; refine hc_seq ?_; refine Zw rfl rfl rfl rfl rfl ?_; refine Zc rfl rfl rfl rfl rfl rfl rfl ?_; refine Zt ?_; refine hc_condF rfl ?_; refine hc_skip ?_; refine hq_then ?_; refine Zl rfl ?_)
    refine h_loadP (cs' := #[.int .i64 client, .int .i64 seq, .int .i64 epoch, .int .i64 op, .int .i64 status, .int .i64 aid, .int .i64 akind, .int .i64 asize, .int .i64 achange, .slice da dn dc, .slice la ln lc, .bool more]) rfl rfl UC.out rfl IC.size .head rfl (by kernel_rfl) rfl rfl ?_
    (refine hx_plain rfl ?_)
    refine h_callW (post := fun u M => M = [RowV byteE 5 u (hdP r0 ++ encP r0 ds es (rpFs' r0))]) rfl rfl rfl rfl rfl rfl rfl rfl EC.out (fun w' h => by have := repBytes_makes (w := w') r0 ho z1 ⟨z2, z3⟩ (hd.but h.but) (hl.but h.but); rw [hr0] at this ⊢; exact this) ?_
    rintro u M rfl
    (refine hx_plain rfl ?_)
    refine h_callW (post := fun u M => M = [RowV byteE 5 u (sealed (hdP r0 ++ encP r0 ds es (rpFs' r0)))]) rfl rfl rfl rfl rfl rfl rfl rfl EC.out (fun w' h => closed_makes (h.rdRowV .head) hel) ?_
    rintro u2 M rfl
    (refine Za rfl rfl rfl rfl rfl ?_; refine Zn rfl rfl rfl rfl rfl ?_; refine hc_ret ?_)
    refine hq_know (fun _ h => St.rowV_shapeS h .head) ?_
    rintro ⟨a7, c7, rfl⟩
    exact hq_ret2 (.inr rfl) rfl rfl rfl ⟨⟨a7, _, c7⟩, rfl, rfl⟩ (fun _ h => h.sub (.cons .head .nil))
  · obtain ⟨h0, hh0⟩ : ∃ h0, r0.chk es = h0 := ⟨_, rfl⟩
    have henc : encRep r0 ds es = [] := by unfold encRep; rw [if_neg hh]
    rw [henc, hh0]
    rw [hh0] at hh
    (refine Zn rfl rfl rfl rfl rfl ?_; refine hc_seq ?_; refine Zw rfl rfl rfl rfl rfl ?_; refine Zc rfl rfl rfl rfl rfl rfl rfl ?_; refine Zt ?_; refine hc_condDT rfl (by omega) ?_; refine Zw rfl rfl rfl rfl rfl ?_; refine Za rfl rfl rfl rfl rfl ?_; refine Zn rfl rfl rfl rfl rfl ?_; refine hc_ret ?_; refine hq_ret_then ?_)
    exact hq_ret2 (.inr rfl) rfl rfl rfl ⟨⟨none, 0, 0⟩, rfl, rfl⟩ (fun _ h => St.rowV_nil h.emp)
end Go.Proofs.YtfolhmlldoepfaaGreatDoor
namespace Go.Proofs.YtfolhmlldoepfaaGreatDoor
open Go Go.Proofs Go.RowKit
set_option maxRecDepth 4000
theorem SpecB.makes {P : Program} {w : World} {f : FuncId} {args : List Value} {post : Value → List Asn → Prop} (h : SpecB P w f args [] post) : Makes P f args w post :=
  h w nowhere trivial (.refl _ _) (fun _ h => h.elim)
theorem rd_nil {X : Type} (E : Elem X) (w : World) : Rd E w (.slice none 0 0) [] := ⟨none, 0, rfl, Nat.le_refl _, by decide, .inl rfl⟩
/-- What the laws know of the world. -/
def Known (w : World) : Prop := (∃ E g, Glo (gl E) g w) ∧ AskF w
theorem Known.but {w w' : World} (h : Known w) (hb : But w w' nowhere) : Known w' := by
  obtain ⟨⟨E, g, hI⟩, hk⟩ := h
  exact ⟨⟨E, g, hI.but hb (fun _ h => h.elim)⟩, hk.but hb⟩
theorem Makes.imp {P : Program} {w : World} {f : FuncId} {args : List Value} {post post' : Value → List Asn → Prop} (h : Makes P f args w post) (hi : ∀ u M w0 F w', post u M → St w0 F M w' → post' u M) : Makes P f args w post' :=
  h.mono fun _ w' ⟨v, M, e, hp, hst⟩ => ⟨v, M, e, hi v M _ _ w' hp hst, hst⟩
theorem row_len {X : Type} {E : Elem X} {T : Nat} {sl : SlV} {xs : List X} {w0 w : World} {F : Nat → Prop} {L L' : List Asn} (h : St w0 F L w) (hp : Pull L (RowV E T sl.v xs) L') : sl = ⟨sl.a, xs.length, sl.cap⟩ := by
  obtain ⟨a, c, e⟩ := St.rowV_shapeS h hp
  obtain ⟨a', n', c'⟩ := sl
  unfold SlV.v at e
  injection e with _ e _
  dsimp only at e ⊢
  rw [e]
/-- What an encoder answers, and a decoder. -/
def EncP (bs : List Int) (e : Int) (u : Value) (M : List Asn) : Prop := ∃ a c, u = .tuple #[.slice a bs.length c, .int .i64 e] ∧ M = [RowV byteE 5 (.slice a bs.length c) bs]
theorem EncP.of {f : FuncId} {args : List Value} {w : World} {bs : List Int} {e : Int} (h : Makes Tryz.prog f args w (fun u M => ∃ sl : SlV, u = .tuple #[sl.v, .int .i64 e] ∧ M = [RowV byteE 5 sl.v bs])) : Makes Tryz.prog f args w (EncP bs e) :=
  h.imp fun u M _ _ _ ⟨sl, h1, h2⟩ hst => by
    subst h1 h2
    have := row_len hst .head
    rw [this]
    exact ⟨_, _, rfl, rfl⟩
def DecQ (d : ReqV × List Int × Int) (u : Value) (M : List Asn) : Prop := ∃ a c, u = .tuple #[.agg ({ d.1 with dv := ⟨a, d.2.1.length, c⟩ } : ReqV).cs, .int .i64 d.2.2] ∧ M = [RowV byteE 5 (.slice a d.2.1.length c) d.2.1]
def DecP (d : RepV × List Int × List EntV × Int) (u : Value) (M : List Asn) : Prop := ∃ a c b k, u = .tuple #[.agg ({ d.1 with dv := ⟨a, d.2.1.length, c⟩, lv := ⟨b, d.2.2.1.length, k⟩ } : RepV).cs, .int .i64 d.2.2.2] ∧ M = [RowV byteE 5 (.slice a d.2.1.length c) d.2.1, RowV entE 94 (.slice b d.2.2.1.length k) d.2.2.1]
section
variable {w : World} (hk : Known w)
include hk
theorem encQ_makes (r : ReqV) {ds : List Int} (hd : Rd byteE w r.dv.v ds) : Makes Tryz.prog 23 [Value.agg r.cs] w (EncP (encReq r ds) r.chk) := EncP.of (encodeRequest_spec hk.2 r hd).makes
theorem encP_makes (r : RepV) {ds : List Int} {es : List EntV} (hd : Rd byteE w r.dv.v ds) (hl : Rd entE w r.lv.v es) : Makes Tryz.prog 25 [Value.agg r.cs] w (EncP (encRep r ds es) (r.chk es)) := EncP.of (encodeReply_spec hk.2 r hd hl).makes
theorem decQ_makes {v : Value} {bs : List Int} (hr : Rd byteE w v bs) (hb : Byts bs) : Makes Tryz.prog 38 [v] w (DecQ (decQ bs)) := by
  obtain ⟨⟨E, g, hI⟩, hk⟩ := hk
  refine (decodeRequest_spec hI hk hr hb).makes.imp fun u M _ _ _ ⟨sl, h1, h2⟩ hst => ?_
  subst h1 h2
  have := row_len hst .head
  rw [this]
  exact ⟨_, _, rfl, rfl⟩
theorem decP_makes {v : Value} {bs : List Int} (hr : Rd byteE w v bs) (hb : Byts bs) : Makes Tryz.prog 40 [v] w (DecP (decP bs)) := by
  obtain ⟨⟨E, g, hI⟩, hk⟩ := hk
  refine (decodeReply_spec hI hk hr hb).makes.imp fun u M _ _ _ ⟨sl, ll, h1, h2⟩ hst => ?_
  subst h1 h2
  have h3 := row_len hst .head
  have h4 := row_len hst (.tail .head)
  rw [h3, h4]
  exact ⟨_, _, _, _, rfl, rfl⟩
end
theorem encReq_byts {r : ReqV} {ds : List Int} (hd : Byts ds) : Byts (encReq r ds) := by
  unfold encReq
  split
  · refine sealed_byts (fun x hx => ?_)
    have hf : ∀ l : List Int, Byts l → Byts (fieldB l) := fun l hl x hx => by
      unfold fieldB at hx
      rcases List.mem_append.1 hx with hx | hx
      · rcases List.mem_append.1 hx with hx | hx
        · exact dg_byts _ _ x hx
        · exact hl x hx
      · rw [(List.mem_replicate.1 hx).2]; decide
    rcases List.mem_append.1 hx with hx | hx
    · unfold hdQ at hx
      simp only [List.mem_append] at hx
      rcases hx with ((((hx | hx) | hx) | hx) | hx) | hx
      · exact (show ∀ x ∈ [(65 : Int), 78, 81, 49], 0 ≤ x ∧ x ≤ 255 by decide) x hx
      all_goals exact dg_byts _ _ x hx
    · unfold encQ at hx
      obtain ⟨f, _, hx⟩ := List.mem_flatMap.1 hx
      cases f with
      | id | off | len | id2 => exact dg_byts _ _ x hx
      | path | name | name2 => exact hf _ (strBytes_byts _) x hx
      | data => exact hf _ hd x hx
  · intro x hx; cases hx
theorem encRep_byts {r : RepV} {ds : List Int} {es : List EntV} (hd : Byts ds) : Byts (encRep r ds es) := by
  unfold encRep
  split
  · refine sealed_byts (fun x hx => ?_)
    have hf : ∀ l : List Int, Byts l → Byts (fieldB l) := fun l hl x hx => by
      unfold fieldB at hx
      rcases List.mem_append.1 hx with hx | hx
      · rcases List.mem_append.1 hx with hx | hx
        · exact dg_byts _ _ x hx
        · exact hl x hx
      · rw [(List.mem_replicate.1 hx).2]; decide
    rcases List.mem_append.1 hx with hx | hx
    · unfold hdP at hx
      simp only [List.mem_append] at hx
      rcases hx with ((((hx | hx) | hx) | hx) | hx) | hx
      · exact (show ∀ x ∈ [(65 : Int), 78, 82, 49], 0 ≤ x ∧ x ≤ 255 by decide) x hx
      all_goals exact dg_byts _ _ x hx
    · unfold encP at hx
      obtain ⟨f, _, hx⟩ := List.mem_flatMap.1 hx
      cases f with
      | attr o =>
        have hx : x ∈ p64 r.aid ++ p32 r.akind ++ p32 r.asize ++ p64 r.achange := hx
        simp only [List.mem_append] at hx
        rcases hx with ((hx | hx) | hx) | hx
        all_goals exact dg_byts _ _ x hx
      | cont => exact hf _ hd x hx
      | list =>
        have hx : x ∈ p32 (es.length : Int) ++ es.flatMap entEnc := hx
        rcases List.mem_append.1 hx with hx | hx
        · exact dg_byts _ _ x hx
        · obtain ⟨e, _, hx⟩ := List.mem_flatMap.1 hx
          unfold entEnc at hx
          simp only [List.mem_append] at hx
          rcases hx with (hx | hx) | hx
          · exact hf _ (strBytes_byts _) x hx
          all_goals exact dg_byts _ _ x hx
      | more => exact dg_byts _ _ x hx
  · intro x hx; cases hx
def plainQ : ReqV := ⟨1, 5, 4, 2, 2, 256, 0, 0, 0, ⟨#[]⟩, ⟨#[]⟩, ⟨#[]⟩, ⟨none, 0, 0⟩⟩
def refuP : RepV := ⟨1, 5, 2, 6, 121, 0, 0, 0, 0, ⟨none, 0, 0⟩, ⟨none, 0, 0⟩, false⟩
theorem plainQ_chk : plainQ.chk = 0 := by
  have hz : nilS ⟨#[]⟩ = true := by unfold nilS; exact beq_self_eq_true _
  unfold ReqV.chk
  rw [if_pos (by decide), if_pos]
  unfold ReqV.good
  rw [Bool.and_eq_true]
  refine ⟨by decide, ?_⟩
  show ReqV.zeroB ⟨1, 5, 4, 2, 2, 0, 0, 0, 0, ⟨#[]⟩, ⟨#[]⟩, ⟨#[]⟩, ⟨none, 0, 0⟩⟩ = true
  unfold ReqV.zeroB
  dsimp only
  rw [hz]
  rfl
theorem refuP_chk : refuP.chk [] = 0 := by decide
theorem plainQ_len : (encReq plainQ []).length = 52 := by
  unfold encReq
  rw [if_pos plainQ_chk]
  unfold sealed
  rw [List.length_append, List.length_append, dg_len, hdQ_len]
  rfl
theorem refuP_len : (encRep refuP [] []).length = 40 := by
  unfold encRep
  rw [if_pos refuP_chk]
  unfold sealed
  rw [List.length_append, List.length_append, dg_len, hdP_len]
  rfl
theorem nil_byts : Byts [] := fun x h => by cases h
theorem plain_spec : Spec0 Tryz.prog 28 [] (.agg plainQ.cs) := by
  refine spec_of Tryz.func28 rfl rfl (Nat.le_of_ble_eq_true rfl) (fun w F => ?_)
  (refine Zl rfl ?_; (refine h_alloc rfl rfl IC.zero rfl rfl rfl (fun _ => ?_)); refine Zt ?_; refine Zl rfl ?_; refine h_build rfl inferInstance rfl rfl rfl rfl ?_; refine hx_plain rfl ?_; refine h_storeAll rfl rfl rfl rfl rfl rfl IC.size .head rfl rfl rfl (List.all_eq_true.1 rfl) ?_; refine Zt ?_; refine hc_ret ?_)
  exact hq_R1 (.inr rfl) rfl (rv_cell rfl .head UC.out rfl IC.size) ⟨rfl, rfl⟩ (fun _ h => h.emp)
theorem refusal_spec : Spec0 Tryz.prog 29 [] (.agg refuP.cs) := by
  refine spec_of Tryz.func29 rfl rfl (Nat.le_of_ble_eq_true rfl) (fun w F => ?_)
  (refine Zl rfl ?_; (refine h_alloc rfl rfl IC.zero rfl rfl rfl (fun _ => ?_)); refine Zt ?_; refine Zl rfl ?_; refine h_build rfl inferInstance rfl rfl rfl rfl ?_; refine hx_plain rfl ?_; refine h_storeAll rfl rfl rfl rfl rfl rfl IC.size .head rfl rfl rfl (List.all_eq_true.1 rfl) ?_; refine Zt ?_; refine hc_ret ?_)
  exact hq_R1 (.inr rfl) rfl (rv_cell rfl .head UC.out rfl IC.size) ⟨rfl, rfl⟩ (fun _ h => h.emp)
set_option maxHeartbeats 8000000 in
theorem head_reads {w : World} (hk : Known w) : Calls Tryz.prog 12 (List.toArray []) w (fun en w' => en = .returned (.bool true) ∧ But w w' nowhere) := by
  refine reads_of Tryz.func12 rfl rfl (Nat.le_of_ble_eq_true rfl) ?_
  have eb := encReq_byts (r := plainQ) nil_byts
  have pb := encRep_byts (r := refuP) (es := []) nil_byts
  have ed := (decQ_enc (r := plainQ) (ds := []) rfl plainQ_chk).1
  have pd := (decP_enc (r := refuP) (ds := []) (es := []) rfl rfl refuP_chk).1
  have el := plainQ_len
  have pl := refuP_len
  have ec := plainQ_chk
  have pc := refuP_chk
  obtain ⟨eq, heq⟩ : ∃ l, encReq plainQ [] = l := ⟨_, rfl⟩
  obtain ⟨ep, hep⟩ : ∃ l, encRep refuP [] [] = l := ⟨_, rfl⟩
  rw [heq] at eb ed el
  rw [hep] at pb pd pl
  (refine Zx rfl rfl rfl rfl rfl ?_; refine Zl rfl ?_)
  refine h_callR rfl rfl rfl rfl rfl rfl EC.out (plain_spec.reads _) ?_
  (refine hx_plain rfl ?_)
  refine h_callW rfl rfl rfl rfl rfl rfl rfl rfl EC.out (fun w' h => encQ_makes (hk.but h.but) plainQ (rd_nil byteE w')) ?_
  rw [ec, heq]
  rintro u M ⟨a1, c1, rfl, rfl⟩
  (refine Zm rfl rfl rfl rfl rfl ?_; (iterate 2 (refine hx_plain rfl ?_; refine h_extract rfl rfl rfl rfl rfl ?_)); refine Za rfl rfl rfl rfl rfl ?_; refine Zn rfl rfl rfl rfl rfl ?_; refine Zl rfl ?_)
  refine h_callR rfl rfl rfl rfl rfl rfl EC.out (plain_spec.reads _) ?_
  (refine hx_plain rfl ?_)
  refine h_callW rfl rfl rfl rfl rfl rfl rfl rfl EC.out (fun w' h => EncP.of (rencodeRequest_makes (w := w') plainQ (by decide) (rd_nil byteE w'))) ?_
  rw [ec, heq]
  rintro u M ⟨a2, c2, rfl, rfl⟩
  (refine Zm rfl rfl rfl rfl rfl ?_; (iterate 2 (refine hx_plain rfl ?_; refine h_extract rfl rfl rfl rfl rfl ?_)); refine Za rfl rfl rfl rfl rfl ?_; refine Zn rfl rfl rfl rfl rfl ?_; refine Zw rfl rfl rfl rfl rfl ?_; refine hx_plain rfl ?_)
  refine h_callW rfl rfl rfl rfl rfl rfl rfl rfl EC.out (fun w' h => decQ_makes (hk.but h.but) (h.rdRowV .head) eb) ?_
  rw [ed]
  rintro u M ⟨a3, c3, rfl, rfl⟩
  unfold plainQ ReqV.bare
  dsimp only [ReqV.cs, SlV.v, List.length_nil]
  (refine Zm rfl rfl rfl rfl rfl ?_; (iterate 2 (refine hx_plain rfl ?_; refine h_extract rfl rfl rfl rfl rfl ?_)); refine hx_plain rfl ?_; (refine h_alloc rfl rfl IC.zero rfl rfl rfl (fun _ => ?_)); refine hx_plain rfl ?_; refine h_storeAll rfl rfl rfl rfl rfl rfl IC.size .head rfl rfl rfl (List.all_eq_true.1 rfl) ?_; refine Zn rfl rfl rfl rfl rfl ?_)
  refine hc_seq ?_
  refine hc_drawQ (by kernel_rfl) (by kernel_rfl) ?_
  ((iterate 2 (refine Zm rfl rfl rfl rfl rfl ?_)); refine hx_plain rfl ?_)
  refine h_callRd rfl rfl rfl rfl rfl rfl EC.out (fun w' h => sameBytes (h.rdRowV (.tail (.tail (.tail .head)))) (h.rdRowV (.tail (.tail .head)))) ?_
  rw [decide_eq_true rfl]
  (refine Zm rfl rfl rfl rfl rfl ?_; refine hx_yes rfl rfl rfl ?_)
  refine h_loadP (cs' := (⟨1, 5, 4, 2, 2, 256, 0, 0, 0, ⟨#[]⟩, ⟨#[]⟩, ⟨#[]⟩, ⟨a3, 0, c3⟩⟩ : ReqV).cs) rfl rfl UC.out rfl IC.size .head rfl (by kernel_rfl) rfl rfl ?_
  (refine hx_yes rfl rfl rfl ?_)
  refine h_callR rfl rfl rfl rfl rfl rfl EC.out (plain_spec.reads _) ?_
  (refine hx_yes rfl rfl rfl ?_)
  refine h_callRd rfl rfl rfl rfl rfl rfl EC.out (fun w' h => sameRequest (a := ⟨1, 5, 4, 2, 2, 256, 0, 0, 0, ⟨#[]⟩, ⟨#[]⟩, ⟨#[]⟩, ⟨a3, 0, c3⟩⟩) (b := plainQ) (da := []) (db := []) (h.rdRowV (.tail .head)) (rd_nil byteE w')) ?_
  rw [show sameQ ⟨1, 5, 4, 2, 2, 256, 0, 0, 0, ⟨#[]⟩, ⟨#[]⟩, ⟨#[]⟩, ⟨a3, 0, c3⟩⟩ plainQ [] [] = true from by simp [sameQ, plainQ]]
  (refine Zq rfl rfl rfl rfl rfl rfl ?_; refine Zn rfl rfl rfl rfl rfl ?_)
  refine hc_st (C' := St w nowhere [RowV byteE 5 (.slice a2 eq.length c2) eq]) (fun _ h => h.sub (.cons (.tail (.tail .head)) .nil)) ?_
  (refine hc_seq ?_; refine Zw rfl rfl rfl rfl rfl ?_; refine hx_plain rfl ?_; refine h_not rfl rfl rfl rfl ?_; refine Zm rfl rfl rfl rfl rfl ?_; refine hx_yes rfl rfl rfl ?_; refine h_move rfl rfl rfl rfl ?_; refine hx_yes rfl rfl rfl ?_)
  refine h_callR rfl rfl rfl rfl rfl rfl EC.out ((lnum_spec 0).reads _) ?_
  ((iterate 2 (refine hx_yes rfl rfl rfl ?_; refine h_cmp rfl rfl rfl rfl rfl rfl ?_; refine Zp rfl rfl rfl rfl rfl rfl ?_; refine Zm rfl rfl rfl rfl rfl ?_; refine hx_yes rfl rfl rfl ?_; refine h_move rfl rfl rfl rfl ?_)); refine hx_yes rfl rfl rfl ?_)
  refine h_callR rfl rfl rfl rfl rfl rfl EC.out ((lnum_spec 0).reads _) ?_
  (refine hx_yes rfl rfl rfl ?_; refine h_cmp rfl rfl rfl rfl rfl rfl ?_; refine Zp rfl rfl rfl rfl rfl rfl ?_; refine Zm rfl rfl rfl rfl rfl ?_; refine hx_yes rfl rfl rfl ?_; refine h_move rfl rfl rfl rfl ?_; refine hx_yes rfl rfl rfl ?_; refine h_len_slice rfl rfl rfl UC.out rfl rfl rfl ?_; refine hx_yes rfl rfl rfl ?_; refine h_cmp rfl rfl rfl rfl rfl rfl ?_; refine Zp rfl rfl rfl rfl rfl rfl ?_; refine Zt ?_; refine hc_condDF rfl (by omega) ?_; refine hc_skip ?_; refine hq_then ?_; refine Zl rfl ?_)
  refine h_callR rfl rfl rfl rfl rfl rfl EC.out (refusal_spec.reads _) ?_
  (refine hx_plain rfl ?_)
  refine h_callW rfl rfl rfl rfl rfl rfl rfl rfl EC.out (fun w' h => encP_makes (hk.but h.but) refuP (es := []) (rd_nil byteE w') (rd_nil entE w')) ?_
  rw [pc, hep]
  rintro u M ⟨b1, k1, rfl, rfl⟩
  (refine Zm rfl rfl rfl rfl rfl ?_; (iterate 2 (refine hx_plain rfl ?_; refine h_extract rfl rfl rfl rfl rfl ?_)); refine Za rfl rfl rfl rfl rfl ?_; refine Zn rfl rfl rfl rfl rfl ?_; refine Zl rfl ?_)
  refine h_callR rfl rfl rfl rfl rfl rfl EC.out (refusal_spec.reads _) ?_
  (refine hx_plain rfl ?_)
  refine h_callW rfl rfl rfl rfl rfl rfl rfl rfl EC.out (fun w' h => EncP.of (rencodeReply_makes (w := w') refuP (es := []) (rd_nil byteE w') (rd_nil entE w'))) ?_
  rw [pc, hep]
  rintro u M ⟨b2, k2, rfl, rfl⟩
  (refine Zm rfl rfl rfl rfl rfl ?_; (iterate 2 (refine hx_plain rfl ?_; refine h_extract rfl rfl rfl rfl rfl ?_)); refine Za rfl rfl rfl rfl rfl ?_; refine Zn rfl rfl rfl rfl rfl ?_; refine Zw rfl rfl rfl rfl rfl ?_; refine hx_plain rfl ?_)
  refine h_callW rfl rfl rfl rfl rfl rfl rfl rfl EC.out (fun w' h => decP_makes (hk.but h.but) (h.rdRowV .head) pb) ?_
  rw [pd]
  rintro u M ⟨b3, k3, b4, k4, rfl, rfl⟩
  unfold refuP RepV.bare
  dsimp only [RepV.cs, SlV.v, List.length_nil]
  (refine Zm rfl rfl rfl rfl rfl ?_; (iterate 2 (refine hx_plain rfl ?_; refine h_extract rfl rfl rfl rfl rfl ?_)); refine hx_plain rfl ?_; (refine h_alloc rfl rfl IC.zero rfl rfl rfl (fun _ => ?_)); refine hx_plain rfl ?_; refine h_storeAll rfl rfl rfl rfl rfl rfl IC.size .head rfl rfl rfl (List.all_eq_true.1 rfl) ?_; refine Zn rfl rfl rfl rfl rfl ?_)
  refine hc_seq ?_
  refine hc_drawQ (by kernel_rfl) (by kernel_rfl) ?_
  ((iterate 2 (refine Zm rfl rfl rfl rfl rfl ?_)); refine hx_plain rfl ?_)
  refine h_callRd rfl rfl rfl rfl rfl rfl EC.out (fun w' h => sameBytes (h.rdRowV (.tail (.tail (.tail (.tail .head))))) (h.rdRowV (.tail (.tail (.tail .head))))) ?_
  rw [decide_eq_true rfl]
  (refine Zm rfl rfl rfl rfl rfl ?_; refine hx_yes rfl rfl rfl ?_)
  refine h_loadP (cs' := (⟨1, 5, 2, 6, 121, 0, 0, 0, 0, ⟨b3, 0, k3⟩, ⟨b4, 0, k4⟩, false⟩ : RepV).cs) rfl rfl UC.out rfl IC.size .head rfl (by kernel_rfl) rfl rfl ?_
  (refine hx_yes rfl rfl rfl ?_)
  refine h_callR rfl rfl rfl rfl rfl rfl EC.out (refusal_spec.reads _) ?_
  (refine hx_yes rfl rfl rfl ?_)
  refine h_callRd rfl rfl rfl rfl rfl rfl EC.out (fun w' h => sameReply (a := ⟨1, 5, 2, 6, 121, 0, 0, 0, 0, ⟨b3, 0, k3⟩, ⟨b4, 0, k4⟩, false⟩) (b := refuP) (da := []) (db := []) (ea := []) (eb := []) (h.rdRowV (.tail .head)) (rd_nil byteE w') (h.rdRowV (.tail (.tail .head))) (rd_nil entE w')) ?_
  rw [show sameP ⟨1, 5, 2, 6, 121, 0, 0, 0, 0, ⟨b3, 0, k3⟩, ⟨b4, 0, k4⟩, false⟩ refuP [] [] [] [] = true from by simp [sameP, refuP]]
  (refine Zq rfl rfl rfl rfl rfl rfl ?_; refine Zn rfl rfl rfl rfl rfl ?_; refine Zw rfl rfl rfl rfl rfl ?_; refine Zm rfl rfl rfl rfl rfl ?_; refine hx_yes rfl rfl rfl ?_; refine h_move rfl rfl rfl rfl ?_; refine hx_yes rfl rfl rfl ?_)
  refine h_callR rfl rfl rfl rfl rfl rfl EC.out ((lnum_spec 0).reads _) ?_
  ((iterate 2 (refine hx_yes rfl rfl rfl ?_; refine h_cmp rfl rfl rfl rfl rfl rfl ?_; refine Zq rfl rfl rfl rfl rfl rfl ?_; refine Zm rfl rfl rfl rfl rfl ?_; refine hx_yes rfl rfl rfl ?_; refine h_move rfl rfl rfl rfl ?_)); refine hx_yes rfl rfl rfl ?_)
  refine h_callR rfl rfl rfl rfl rfl rfl EC.out ((lnum_spec 0).reads _) ?_
  (refine hx_yes rfl rfl rfl ?_; refine h_cmp rfl rfl rfl rfl rfl rfl ?_; refine Zq rfl rfl rfl rfl rfl rfl ?_; refine Zm rfl rfl rfl rfl rfl ?_; refine hx_yes rfl rfl rfl ?_; refine h_move rfl rfl rfl rfl ?_; refine hx_yes rfl rfl rfl ?_; refine h_len_slice rfl rfl rfl UC.out rfl rfl rfl ?_; refine hx_yes rfl rfl rfl ?_; refine h_cmp rfl rfl rfl rfl rfl rfl ?_; refine Zq rfl rfl rfl rfl rfl rfl ?_; refine Zn rfl rfl rfl rfl rfl ?_; refine hc_ret ?_)
  exact hq_ret1 (.inr rfl) rfl rfl ⟨congrArg Value.bool (by rw [pl]; rfl), rfl⟩ (fun _ h => h.emp)
end Go.Proofs.YtfolhmlldoepfaaGreatDoor
