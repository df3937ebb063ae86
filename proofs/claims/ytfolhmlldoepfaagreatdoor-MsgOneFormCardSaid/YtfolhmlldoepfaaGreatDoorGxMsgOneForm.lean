/- MsgOneForm: whatever bytes are read as a message are just its bytes, and it is of one kind. Conditions: none (the tied card). -/
import Derived.Test.YtfolhmlldoepfaaGreatDoorGf
import Derived.Below
import Derived.SizedLaws
import Derived.WalkKit
import Derived.SevenTiedAt
import Derived.JoinedCond
import Derived.Deep.DeepHandedRow
import Derived.Deep.DeepWitnessRowRef
import Derived.Test.YtfolhmlldoepfaaGreatDoorTie
import Derived.Test.YtfolhmlldoepfaaGreatDoorCards
namespace Go.Proofs.YtfolhmlldoepfaaGreatDoor
open Go Go.Proofs Go.RowKit
set_option maxRecDepth 4000
theorem rd_lenS {X : Type} {E : Elem X} {w : World} {sl : SlV} {xs : List X} (h : Rd E w sl.v xs) : xs.length = sl.len := by
  obtain ⟨_, _, e, _⟩ := h
  unfold SlV.v at e
  injection e with _ e _
  exact e.symm
theorem kindQ {l : List Int} (h : l.take 4 = [65, 78, 81, 49]) (hl : 12 ≤ l.length) : kindR l = 1 := by
  unfold kindR
  rw [if_neg (by omega), h, strOf_mgQ, if_pos (beq_self_eq_true _)]
theorem kindP {l : List Int} (h : l.take 4 = [65, 78, 82, 49]) (hl : 12 ≤ l.length) : kindR l = 2 := by
  have hne : (mgR.toList == mgQ.toList) = false := by
    rw [beq_eq_false_iff_ne]
    intro e
    have := toList_inj e
    revert this
    decide
  unfold kindR
  rw [if_neg (by omega), h, strOf_mgR, hne, if_neg Bool.false_ne_true, if_pos (beq_self_eq_true _)]
set_option maxHeartbeats 8000000 in
theorem back_law {w : World} (hk : Known w) (r : ReqV) (y : RepV) {ds ps : List Int} {es : List EntV} (hd : Rd byteE w r.dv.v ds) (hp : Rd byteE w y.dv.v ps) (hl : Rd entE w y.lv.v es) (bd : Byts ds) (bp : Byts ps) :
    Calls Tryz.prog 10 [Value.agg r.cs, Value.agg y.cs].toArray w (fun en w' => en = .returned (.bool true) ∧ But w w' nowhere) := by
  obtain ⟨r0, hr0⟩ : ∃ r0, r0 = r := ⟨_, rfl⟩
  obtain ⟨y0, hy0⟩ : ∃ y0, y0 = y := ⟨_, rfl⟩
  rw [← hr0] at hd
  rw [← hy0] at hp hl
  have hdl : ds.length = r0.dv.len := rd_lenS hd
  have hpl : ps.length = y0.dv.len := rd_lenS hp
  have hll : es.length = y0.lv.len := rd_lenS hl
  obtain ⟨client, seq, ack, epoch, op, id, id2, off, len, path, name, name2, ⟨da, dn, dc⟩⟩ := r
  obtain ⟨pclient, pseq, pepoch, pop, status, aid, akind, asize, achange, ⟨pa, pn, pc⟩, ⟨la, ln, lc⟩, more⟩ := y
  dsimp only [ReqV.cs, RepV.cs, SlV.v]
  refine reads_of Tryz.func10 rfl rfl (Nat.le_of_ble_eq_true rfl) ?_
  (refine Zl rfl ?_; (refine h_box rfl rfl rfl rfl rfl rfl (fun _ => ?_)); refine hx_plain rfl ?_; (refine h_box rfl rfl rfl rfl rfl rfl (fun _ => ?_)); refine Zn rfl rfl rfl rfl rfl ?_; refine Zl rfl ?_)
  refine h_callRd rfl rfl rfl rfl rfl rfl EC.out (fun w' h => head_reads (hk.but h.but)) ?_
  (refine Zn rfl rfl rfl rfl rfl ?_; refine hc_seq ?_; refine Zl rfl ?_; refine h_move rfl rfl rfl rfl ?_; refine hx_plain rfl ?_; refine h_not rfl rfl rfl rfl ?_; refine Zt ?_; refine hc_condF rfl ?_; refine hc_skip ?_; refine hq_then ?_; refine Zl rfl ?_)
  rename_i bq bp'
  refine h_loadP (cs' := #[.int .i64 client, .int .i64 seq, .int .i64 ack, .int .i64 epoch, .int .i64 op, .int .i64 id, .int .i64 id2, .int .i64 off, .int .i64 len, .string path, .string name, .string name2, .slice da dn dc]) rfl rfl UC.out rfl IC.size (.tail .head) rfl (by kernel_rfl) rfl rfl ?_
  (refine hx_plain rfl ?_)
  refine h_callW (post := EncP (encReq r0 ds) r0.chk) rfl rfl rfl rfl rfl rfl rfl rfl EC.out (fun w' h => by have := encQ_makes (hk.but h.but) r0 (hd.but h.but); rw [hr0] at this ⊢; exact this) ?_
  have hdec := decQ_enc (r := r0) (ds := ds) hdl
  have hbq := encReq_byts (r := r0) bd
  have hnil : r0.chk ≠ 0 → encReq r0 ds = [] := fun h => by unfold encReq; rw [if_neg h]
  obtain ⟨eq, heq⟩ : ∃ l, encReq r0 ds = l := ⟨_, rfl⟩
  obtain ⟨ck, hck⟩ : ∃ c, r0.chk = c := ⟨_, rfl⟩
  rw [heq, hck]
  rw [heq, hck] at hdec hnil
  rw [heq] at hbq
  rintro u M ⟨a1, c1, rfl, rfl⟩
  (refine Zm rfl rfl rfl rfl rfl ?_; (iterate 2 (refine hx_plain rfl ?_; refine h_extract rfl rfl rfl rfl rfl ?_)); refine Za rfl rfl rfl rfl rfl ?_; refine Zn rfl rfl rfl rfl rfl ?_; refine Zl rfl ?_)
  refine h_loadP (cs' := #[.int .i64 client, .int .i64 seq, .int .i64 ack, .int .i64 epoch, .int .i64 op, .int .i64 id, .int .i64 id2, .int .i64 off, .int .i64 len, .string path, .string name, .string name2, .slice da dn dc]) rfl rfl UC.out rfl IC.size (.tail (.tail .head)) rfl (by kernel_rfl) rfl rfl ?_
  (refine hx_plain rfl ?_)
  refine h_callRd (v := .int .i64 ck) rfl rfl rfl rfl rfl rfl EC.out (fun w' h => by have := checkQ_reads (hk.but h.but) r0; rw [hck] at this; rw [hr0] at this; exact this) ?_
  (refine Zn rfl rfl rfl rfl rfl ?_)
  refine hc_meet (Y := Unit) (fun _ => [(7, .int .i64 ck), (2, .pointer (some ⟨bq, 0, none⟩)), (3, .pointer (some ⟨bp', 0, none⟩)), (6, .slice a1 eq.length c1)]) (fun _ => [RowV byteE 5 (.slice a1 eq.length c1) eq, Blk bp' (.cells #[.int .i64 pclient, .int .i64 pseq, .int .i64 pepoch, .int .i64 pop, .int .i64 status, .int .i64 aid, .int .i64 akind, .int .i64 asize, .int .i64 achange, .slice pa pn pc, .slice la ln lc, .bool more] 30 (0, 0)), Blk bq (.cells #[.int .i64 client, .int .i64 seq, .int .i64 ack, .int .i64 epoch, .int .i64 op, .int .i64 id, .int .i64 id2, .int .i64 off, .int .i64 len, .string path, .string name, .string name2, .slice da dn dc] 24 (0, 0))]) (fun _ => True) ?_ ?_
  · (refine Zl rfl ?_; refine h_move rfl rfl rfl rfl ?_; refine Zm rfl rfl rfl rfl rfl ?_; refine Zc rfl rfl rfl rfl rfl rfl rfl ?_; refine Zt ?_; refine hc_condDF rfl (by omega) ?_; refine hc_skip ?_)
    exact hq_met () trivial (.cons rfl (.cons rfl (.cons rfl (.cons rfl .nil)))) (fun _ h => h)
  rintro ⟨⟩ _
  refine hc_meet (Y := Unit) (fun _ => [(3, .pointer (some ⟨bp', 0, none⟩))]) (fun _ => [Blk bp' (.cells #[.int .i64 pclient, .int .i64 pseq, .int .i64 pepoch, .int .i64 pop, .int .i64 status, .int .i64 aid, .int .i64 akind, .int .i64 asize, .int .i64 achange, .slice pa pn pc, .slice la ln lc, .bool more] 30 (0, 0))]) (fun _ => True) ?_ ?_
  · (refine Zl rfl ?_; refine h_move rfl rfl rfl rfl ?_; refine hx_plain rfl ?_)
    refine h_callR rfl rfl rfl rfl rfl rfl EC.out ((lnum_spec ck).reads _) ?_
    by_cases hc0 : ck = 0
    · subst hc0
      obtain ⟨d1, d2, d3, d4⟩ := hdec rfl
      have hkn := kindQ d3 d4
      (refine Zc rfl rfl rfl rfl rfl rfl rfl ?_; refine Zt ?_; refine hc_condT rfl ?_; refine Zl rfl ?_; refine h_move rfl rfl rfl rfl ?_; refine hx_plain rfl ?_)
      refine h_callW rfl rfl rfl rfl rfl rfl rfl rfl EC.out (fun w' h => decQ_makes (hk.but h.but) (h.rdRowV .head) hbq) ?_
      rw [d1]
      rintro u M ⟨a3, c3, rfl, rfl⟩
      rw [show ({ (r0.bare ds.length, ds, (0 : Int)).1 with dv := ⟨a3, ds.length, c3⟩ } : ReqV) = ⟨client, seq, ack, epoch, op, id, id2, off, len, path, name, name2, ⟨a3, ds.length, c3⟩⟩ by rw [hr0]; rfl]
      dsimp only [ReqV.cs, SlV.v]
      (refine Zm rfl rfl rfl rfl rfl ?_; (iterate 2 (refine hx_plain rfl ?_; refine h_extract rfl rfl rfl rfl rfl ?_)); refine hx_plain rfl ?_; (refine h_alloc rfl rfl IC.zero rfl rfl rfl (fun _ => ?_)); refine hx_plain rfl ?_; refine h_storeAll rfl rfl rfl rfl rfl rfl IC.size .head rfl rfl rfl (List.all_eq_true.1 rfl) ?_; refine Zn rfl rfl rfl rfl rfl ?_; refine Zl rfl ?_)
      refine h_loadP (cs' := (⟨client, seq, ack, epoch, op, id, id2, off, len, path, name, name2, ⟨a3, ds.length, c3⟩⟩ : ReqV).cs) rfl rfl UC.out rfl IC.size .head rfl (by kernel_rfl) rfl rfl ?_
      (refine hx_plain rfl ?_)
      refine h_loadP (cs' := #[.int .i64 client, .int .i64 seq, .int .i64 ack, .int .i64 epoch, .int .i64 op, .int .i64 id, .int .i64 id2, .int .i64 off, .int .i64 len, .string path, .string name, .string name2, .slice da dn dc]) rfl rfl UC.out rfl IC.size (.tail (.tail (.tail (.tail .head)))) rfl (by kernel_rfl) rfl rfl ?_
      (refine hx_plain rfl ?_)
      refine h_callRd rfl rfl rfl rfl rfl rfl EC.out (fun w' h => sameRequest (a := ⟨client, seq, ack, epoch, op, id, id2, off, len, path, name, name2, ⟨a3, ds.length, c3⟩⟩) (b := ⟨client, seq, ack, epoch, op, id, id2, off, len, path, name, name2, ⟨da, dn, dc⟩⟩) (da := ds) (db := ds) (h.rdRowV (.tail .head)) (by have := hd.but h.but; rw [hr0] at this; exact this)) ?_
      rw [show sameQ ⟨client, seq, ack, epoch, op, id, id2, off, len, path, name, name2, ⟨a3, ds.length, c3⟩⟩ ⟨client, seq, ack, epoch, op, id, id2, off, len, path, name, name2, ⟨da, dn, dc⟩⟩ ds ds = true from by simp [sameQ]]
      (refine Zn rfl rfl rfl rfl rfl ?_; refine Zl rfl ?_; refine h_move rfl rfl rfl rfl ?_; refine hx_plain rfl ?_; refine h_not rfl rfl rfl rfl ?_; refine Zm rfl rfl rfl rfl rfl ?_; refine hx_yes rfl rfl rfl ?_; refine h_move rfl rfl rfl rfl ?_; refine hx_yes rfl rfl rfl ?_)
      refine h_callR rfl rfl rfl rfl rfl rfl EC.out ((lnum_spec 0).reads _) ?_
      (refine hx_yes rfl rfl rfl ?_; refine h_cmp rfl rfl rfl rfl rfl rfl ?_; refine Zp rfl rfl rfl rfl rfl rfl ?_; refine Zm rfl rfl rfl rfl rfl ?_; refine hx_yes rfl rfl rfl ?_; refine h_move rfl rfl rfl rfl ?_; refine hx_yes rfl rfl rfl ?_; refine h_len_slice rfl rfl rfl UC.out rfl rfl rfl ?_; refine hx_yes rfl rfl rfl ?_; refine h_cmp rfl rfl rfl rfl rfl rfl ?_; refine Zp rfl rfl rfl rfl rfl rfl ?_; refine Zm rfl rfl rfl rfl rfl ?_; refine hx_gF rfl rfl rfl (by omega) ?_; refine hx_yes rfl rfl rfl ?_; refine h_move rfl rfl rfl rfl ?_; refine hx_yes rfl rfl rfl ?_)
      refine h_callRd rfl rfl rfl rfl rfl rfl EC.out (fun w' h => kind_reads (h.rdRowV (.tail (.tail .head)))) ?_
      rw [hkn]
      (refine hx_yes rfl rfl rfl ?_; refine h_cmp rfl rfl rfl rfl rfl rfl ?_; refine Zp rfl rfl rfl rfl rfl rfl ?_; refine Zt ?_; refine hc_condF rfl ?_; refine hc_skip ?_)
      exact hq_met () trivial (.cons rfl .nil) (fun _ h => by (refine St.sub ?_ h; refine .cons (.tail (.tail (.tail .head))) ?_; exact .nil))
    · have hnl := hnil hc0
      subst hnl
      (refine Zc rfl rfl rfl rfl rfl rfl rfl ?_; refine Zt ?_; refine hc_condDF rfl (by omega) ?_; refine Zl rfl ?_; refine h_move rfl rfl rfl rfl ?_; refine hx_plain rfl ?_; refine h_len_slice rfl rfl rfl UC.out rfl rfl rfl ?_; refine Zc rfl rfl rfl rfl rfl rfl rfl ?_; refine Zt ?_; refine hc_condF rfl ?_; refine hc_skip ?_)
      exact hq_met () trivial (.cons rfl .nil) (fun _ h => by (refine St.sub ?_ h; (with_reducible refine .cons (.tail .head) ?_); exact .nil))
  rintro ⟨⟩ _
  clear hdec hbq hnil heq hck
  (refine Zl rfl ?_)
  refine h_loadP (cs' := #[.int .i64 pclient, .int .i64 pseq, .int .i64 pepoch, .int .i64 pop, .int .i64 status, .int .i64 aid, .int .i64 akind, .int .i64 asize, .int .i64 achange, .slice pa pn pc, .slice la ln lc, .bool more]) rfl rfl UC.out rfl IC.size .head rfl (by kernel_rfl) rfl rfl ?_
  (refine hx_plain rfl ?_)
  refine h_callW (post := EncP (encRep y0 ps es) (y0.chk es)) rfl rfl rfl rfl rfl rfl rfl rfl EC.out (fun w' h => by have := encP_makes (hk.but h.but) y0 (hp.but h.but) (hl.but h.but); rw [hy0] at this ⊢; exact this) ?_
  have hdec := decP_enc (r := y0) (ds := ps) (es := es) hpl hll
  have hbp := encRep_byts (r := y0) (es := es) bp
  have hnil : y0.chk es ≠ 0 → encRep y0 ps es = [] := fun h => by unfold encRep; rw [if_neg h]
  obtain ⟨ep, hep⟩ : ∃ l, encRep y0 ps es = l := ⟨_, rfl⟩
  obtain ⟨ck2, hck⟩ : ∃ c, y0.chk es = c := ⟨_, rfl⟩
  rw [hep, hck]
  rw [hep, hck] at hdec hnil
  rw [hep] at hbp
  rintro u M ⟨a2, c2, rfl, rfl⟩
  (refine Zm rfl rfl rfl rfl rfl ?_; (iterate 2 (refine hx_plain rfl ?_; refine h_extract rfl rfl rfl rfl rfl ?_)); refine Za rfl rfl rfl rfl rfl ?_; refine Zn rfl rfl rfl rfl rfl ?_; refine Zl rfl ?_)
  refine h_loadP (cs' := #[.int .i64 pclient, .int .i64 pseq, .int .i64 pepoch, .int .i64 pop, .int .i64 status, .int .i64 aid, .int .i64 akind, .int .i64 asize, .int .i64 achange, .slice pa pn pc, .slice la ln lc, .bool more]) rfl rfl UC.out rfl IC.size (.tail .head) rfl (by kernel_rfl) rfl rfl ?_
  (refine hx_plain rfl ?_)
  refine h_callRd (v := .int .i64 ck2) rfl rfl rfl rfl rfl rfl EC.out (fun w' h => by have := checkP_reads (hk.but h.but) y0 (hl.but h.but); rw [hck] at this; rw [hy0] at this; exact this) ?_
  by_cases hc0 : ck2 = 0
  · subst hc0
    obtain ⟨d1, d2, d3, d4⟩ := hdec rfl
    have hkn := kindP d3 d4
    (refine Zn rfl rfl rfl rfl rfl ?_; refine hc_seq ?_; refine Zl rfl ?_; refine h_move rfl rfl rfl rfl ?_; refine Zm rfl rfl rfl rfl rfl ?_; refine Zc rfl rfl rfl rfl rfl rfl rfl ?_; refine Zm rfl rfl rfl rfl rfl ?_; refine hx_yes rfl rfl rfl ?_; refine h_move rfl rfl rfl rfl ?_; refine hx_yes rfl rfl rfl ?_)
    refine h_callR rfl rfl rfl rfl rfl rfl EC.out ((lnum_spec 0).reads _) ?_
    (refine hx_yes rfl rfl rfl ?_; refine h_cmp rfl rfl rfl rfl rfl rfl ?_; refine Zp rfl rfl rfl rfl rfl rfl ?_; refine Zt ?_; refine hc_condF rfl ?_; refine hc_skip ?_; refine hq_then ?_; refine Zl rfl ?_; refine h_move rfl rfl rfl rfl ?_; refine hx_plain rfl ?_)
    refine h_callW rfl rfl rfl rfl rfl rfl rfl rfl EC.out (fun w' h => decP_makes (hk.but h.but) (h.rdRowV .head) hbp) ?_
    rw [d1]
    rintro u M ⟨b3, k3, b4, k4, rfl, rfl⟩
    rw [show ({ (y0.bare ps.length es.length, ps, es, (0 : Int)).1 with dv := ⟨b3, ps.length, k3⟩, lv := ⟨b4, es.length, k4⟩ } : RepV) = ⟨pclient, pseq, pepoch, pop, status, aid, akind, asize, achange, ⟨b3, ps.length, k3⟩, ⟨b4, es.length, k4⟩, more⟩ by rw [hy0]; rfl]
    dsimp only [RepV.cs, SlV.v]
    (refine Zm rfl rfl rfl rfl rfl ?_; (iterate 2 (refine hx_plain rfl ?_; refine h_extract rfl rfl rfl rfl rfl ?_)); refine hx_plain rfl ?_; (refine h_alloc rfl rfl IC.zero rfl rfl rfl (fun _ => ?_)); refine hx_plain rfl ?_; refine h_storeAll rfl rfl rfl rfl rfl rfl IC.size .head rfl rfl rfl (List.all_eq_true.1 rfl) ?_; refine Zn rfl rfl rfl rfl rfl ?_; refine Zl rfl ?_)
    refine h_loadP (cs' := (⟨pclient, pseq, pepoch, pop, status, aid, akind, asize, achange, ⟨b3, ps.length, k3⟩, ⟨b4, es.length, k4⟩, more⟩ : RepV).cs) rfl rfl UC.out rfl IC.size .head rfl (by kernel_rfl) rfl rfl ?_
    (refine hx_plain rfl ?_)
    refine h_loadP (cs' := #[.int .i64 pclient, .int .i64 pseq, .int .i64 pepoch, .int .i64 pop, .int .i64 status, .int .i64 aid, .int .i64 akind, .int .i64 asize, .int .i64 achange, .slice pa pn pc, .slice la ln lc, .bool more]) rfl rfl UC.out rfl IC.size (.tail (.tail (.tail (.tail .head)))) rfl (by kernel_rfl) rfl rfl ?_
    (refine hx_plain rfl ?_)
    refine h_callRd rfl rfl rfl rfl rfl rfl EC.out (fun w' h => sameReply (a := ⟨pclient, pseq, pepoch, pop, status, aid, akind, asize, achange, ⟨b3, ps.length, k3⟩, ⟨b4, es.length, k4⟩, more⟩) (b := ⟨pclient, pseq, pepoch, pop, status, aid, akind, asize, achange, ⟨pa, pn, pc⟩, ⟨la, ln, lc⟩, more⟩) (da := ps) (db := ps) (ea := es) (eb := es) (h.rdRowV (.tail .head)) (by have := hp.but h.but; rw [hy0] at this; exact this) (h.rdRowV (.tail (.tail .head))) (by have := hl.but h.but; rw [hy0] at this; exact this)) ?_
    rw [show sameP ⟨pclient, pseq, pepoch, pop, status, aid, akind, asize, achange, ⟨b3, ps.length, k3⟩, ⟨b4, es.length, k4⟩, more⟩ ⟨pclient, pseq, pepoch, pop, status, aid, akind, asize, achange, ⟨pa, pn, pc⟩, ⟨la, ln, lc⟩, more⟩ ps ps es es = true from by simp [sameP]]
    (refine Zn rfl rfl rfl rfl rfl ?_; refine Zl rfl ?_; refine h_move rfl rfl rfl rfl ?_; refine Zm rfl rfl rfl rfl rfl ?_; refine hx_yes rfl rfl rfl ?_; refine h_move rfl rfl rfl rfl ?_; refine hx_yes rfl rfl rfl ?_)
    refine h_callR rfl rfl rfl rfl rfl rfl EC.out ((lnum_spec 0).reads _) ?_
    (refine hx_yes rfl rfl rfl ?_; refine h_cmp rfl rfl rfl rfl rfl rfl ?_; refine Zq rfl rfl rfl rfl rfl rfl ?_; refine Zm rfl rfl rfl rfl rfl ?_; refine hx_yes rfl rfl rfl ?_; refine h_move rfl rfl rfl rfl ?_; refine hx_yes rfl rfl rfl ?_; refine h_len_slice rfl rfl rfl UC.out rfl rfl rfl ?_; refine hx_yes rfl rfl rfl ?_; refine h_cmp rfl rfl rfl rfl rfl rfl ?_; refine Zq rfl rfl rfl rfl rfl rfl ?_; refine Zm rfl rfl rfl rfl rfl ?_; refine hx_gT rfl rfl rfl (by omega) ?_; refine hx_yes rfl rfl rfl ?_; refine h_move rfl rfl rfl rfl ?_; refine hx_yes rfl rfl rfl ?_)
    refine h_callRd rfl rfl rfl rfl rfl rfl EC.out (fun w' h => kind_reads (h.rdRowV (.tail (.tail (.tail .head))))) ?_
    rw [hkn]
    (refine hx_yes rfl rfl rfl ?_; refine h_cmp rfl rfl rfl rfl rfl rfl ?_; refine Zq rfl rfl rfl rfl rfl rfl ?_; refine Zn rfl rfl rfl rfl rfl ?_; refine hc_ret ?_)
    exact hq_ret1 (.inr rfl) rfl rfl ⟨rfl, rfl⟩ (fun _ h => h.emp)
  · have hnl := hnil hc0
    subst hnl
    (refine Zn rfl rfl rfl rfl rfl ?_; refine hc_seq ?_; refine Zl rfl ?_; refine h_move rfl rfl rfl rfl ?_; refine Zm rfl rfl rfl rfl rfl ?_; refine Zc rfl rfl rfl rfl rfl rfl rfl ?_; refine Zm rfl rfl rfl rfl rfl ?_; refine hx_gF rfl rfl rfl (by omega) ?_; refine hx_yes rfl rfl rfl ?_; refine h_move rfl rfl rfl rfl ?_; refine hx_yes rfl rfl rfl ?_)
    refine h_callR rfl rfl rfl rfl rfl rfl EC.out ((lnum_spec ck2).reads _) ?_
    (refine hx_yes rfl rfl rfl ?_; refine h_cmp rfl rfl rfl rfl rfl rfl ?_; refine Zp rfl rfl rfl rfl rfl rfl ?_; refine Zt ?_; refine hc_condDT rfl (by omega) ?_; refine Zl rfl ?_; refine h_move rfl rfl rfl rfl ?_; refine Zm rfl rfl rfl rfl rfl ?_; refine Zc rfl rfl rfl rfl rfl rfl rfl ?_; refine Zm rfl rfl rfl rfl rfl ?_; refine hx_gT rfl rfl rfl (by omega) ?_; refine hx_yes rfl rfl rfl ?_; refine h_move rfl rfl rfl rfl ?_; refine hx_yes rfl rfl rfl ?_; refine h_len_slice rfl rfl rfl UC.out rfl rfl rfl ?_; refine hx_yes rfl rfl rfl ?_; refine h_cmp rfl rfl rfl rfl rfl rfl ?_; refine Zq rfl rfl rfl rfl rfl rfl ?_; refine Zn rfl rfl rfl rfl rfl ?_; refine hc_ret ?_; refine hq_ret_then ?_)
    exact hq_ret1 (.inr rfl) rfl rfl ⟨rfl, rfl⟩ (fun _ h => h.emp)
end Go.Proofs.YtfolhmlldoepfaaGreatDoor
namespace Go.Proofs.YtfolhmlldoepfaaGreatDoor
open Go Go.Proofs Go.RowKit
set_option maxRecDepth 4000
theorem encReq_dv (r : ReqV) (sl : SlV) {ds : List Int} (h : sl.len = r.dv.len) : encReq { r with dv := sl } ds = encReq r ds := by
  unfold encReq
  rw [r.chk_dv sl h, encQ_dv]
  rfl
theorem encRep_dv (r : RepV) (sl ll : SlV) {ds : List Int} {es : List EntV} (h : sl.len = r.dv.len) (h2 : ll.len = r.lv.len) : encRep { r with dv := sl, lv := ll } ds es = encRep r ds es := by
  unfold encRep
  rw [r.chk_dv es sl ll h h2, encP_dv]
  rfl
theorem mg_apart {bs : List Int} (hb : Byts bs) (h1 : openE bs mgQ = 0) (h2 : openE bs mgR = 0) : False := by
  obtain ⟨_, _, e1, _⟩ := open_ok hb h1
  obtain ⟨_, _, e2, _⟩ := open_ok hb h2
  rw [e1] at e2
  revert e2
  decide
theorem open_kindQ {bs : List Int} (hb : Byts bs) (h : openE bs mgQ = 0) : kindR bs = 1 := by
  obtain ⟨_, h12, e1, _⟩ := open_ok hb h
  exact kindQ e1 h12
theorem open_kindP {bs : List Int} (hb : Byts bs) (h : openE bs mgR = 0) : kindR bs = 2 := by
  obtain ⟨_, h12, e1, _⟩ := open_ok hb h
  exact kindP e1 h12
set_option maxHeartbeats 8000000 in
theorem form_law {w : World} (hk : Known w) {v : Value} {bs : List Int} (hr : Rd byteE w v bs) (hb : Byts bs) :
    Calls Tryz.prog 11 [v].toArray w (fun en w' => en = .returned (.bool true) ∧ But w w' nowhere) := by
  have fq := enc_decQ hb
  have fp := enc_decP hb
  have kq := open_kindQ hb
  have kp := open_kindP hb
  have ap := mg_apart hb
  refine reads_of Tryz.func11 rfl rfl (Nat.le_of_ble_eq_true rfl) ?_
  (refine Zl rfl ?_; refine h_assign rfl rfl rfl rfl ?_; refine Zt ?_; refine Zl rfl ?_)
  refine h_callRd rfl rfl rfl rfl rfl rfl EC.out (fun w' h => head_reads (hk.but h.but)) ?_
  (refine Zn rfl rfl rfl rfl rfl ?_; refine hc_seq ?_; refine Zl rfl ?_; refine h_move rfl rfl rfl rfl ?_; refine hx_plain rfl ?_; refine h_not rfl rfl rfl rfl ?_; refine Zt ?_; refine hc_condF rfl ?_; refine hc_skip ?_; refine hq_then ?_; refine Zl rfl ?_; refine h_move rfl rfl rfl rfl ?_; refine hx_plain rfl ?_)
  refine h_callW rfl rfl rfl rfl rfl rfl rfl rfl EC.out (fun w' h => decQ_makes (hk.but h.but) (hr.but h.but) hb) ?_
  obtain ⟨⟨⟨client, seq, ack, epoch, op, id, id2, off, len, path, name, name2, ⟨da, dn, dc⟩⟩, qd, qe⟩, hdq⟩ : ∃ d, decQ bs = d := ⟨_, rfl⟩
  rw [hdq] at fq ⊢
  dsimp only at fq
  rintro u M ⟨a1, c1, rfl, rfl⟩
  dsimp only [ReqV.cs, SlV.v]
  (refine Zm rfl rfl rfl rfl rfl ?_; (iterate 2 (refine hx_plain rfl ?_; refine h_extract rfl rfl rfl rfl rfl ?_)); refine hx_plain rfl ?_; (refine h_alloc rfl rfl IC.zero rfl rfl rfl (fun _ => ?_)); refine hx_plain rfl ?_; refine h_storeAll rfl rfl rfl rfl rfl rfl IC.size .head rfl rfl rfl (List.all_eq_true.1 rfl) ?_; refine Zn rfl rfl rfl rfl rfl ?_; refine Zl rfl ?_; refine h_move rfl rfl rfl rfl ?_; refine hx_plain rfl ?_)
  refine h_callW rfl rfl rfl rfl rfl rfl rfl rfl EC.out (fun w' h => decP_makes (hk.but h.but) (hr.but h.but) hb) ?_
  obtain ⟨⟨⟨pclient, pseq, pepoch, pop, status, aid, akind, asize, achange, ⟨pa, pn, pc⟩, ⟨la, ln, lc⟩, more⟩, pd, pes, pe⟩, hdp⟩ : ∃ d, decP bs = d := ⟨_, rfl⟩
  rw [hdp] at fp ⊢
  dsimp only at fp
  rintro u M ⟨a2, c2, a3, c3, rfl, rfl⟩
  dsimp only [RepV.cs, SlV.v]
  (refine Zm rfl rfl rfl rfl rfl ?_; (iterate 2 (refine hx_plain rfl ?_; refine h_extract rfl rfl rfl rfl rfl ?_)); refine hx_plain rfl ?_; (refine h_alloc rfl rfl IC.zero rfl rfl rfl (fun _ => ?_)); refine hx_plain rfl ?_; refine h_storeAll rfl rfl rfl rfl rfl rfl IC.size .head rfl rfl rfl (List.all_eq_true.1 rfl) ?_; refine Zn rfl rfl rfl rfl rfl ?_; refine Zl rfl ?_; refine h_move rfl rfl rfl rfl ?_; refine hx_plain rfl ?_)
  rename_i bq bp
  refine h_callRd rfl rfl rfl rfl rfl rfl EC.out (fun w' h => kind_reads (hr.but h.but)) ?_
  (refine Zn rfl rfl rfl rfl rfl ?_)
  refine hc_st (C' := St w nowhere [RowV byteE 5 (.slice a1 qd.length c1) qd, RowV byteE 5 (.slice a2 pd.length c2) pd, RowV entE 94 (.slice a3 pes.length c3) pes, Blk bq (.cells (⟨client, seq, ack, epoch, op, id, id2, off, len, path, name, name2, ⟨a1, qd.length, c1⟩⟩ : ReqV).cs 24 (0, 0)), Blk bp (.cells (⟨pclient, pseq, pepoch, pop, status, aid, akind, asize, achange, ⟨a2, pd.length, c2⟩, ⟨a3, pes.length, c3⟩, more⟩ : RepV).cs 30 (0, 0))]) (fun _ h => by (refine St.sub ?_ h; refine .cons (.tail (.tail (.tail (.tail .head)))) ?_; (with_reducible refine .cons (.tail .head) ?_); (with_reducible refine .cons (.tail .head) ?_); (with_reducible refine .cons (.tail .head) ?_); (with_reducible refine .cons .head ?_); exact .nil)) ?_
  obtain ⟨kd, hkd⟩ : ∃ k, kindR bs = k := ⟨_, rfl⟩
  rw [hkd] at kq kp ⊢
  by_cases q0 : qe = 0
  · subst q0
    obtain ⟨f1, f2, f3, f4⟩ := fq rfl
    have hpe : ¬ pe = 0 := fun h => ap f4 (fp h).2.2.2
    obtain rfl := kq f4
    (refine hc_seq ?_; refine Zl rfl ?_; refine h_move rfl rfl rfl rfl ?_; refine hx_plain rfl ?_)
    refine h_callR rfl rfl rfl rfl rfl rfl EC.out ((lnum_spec 0).reads _) ?_
    (refine Zc rfl rfl rfl rfl rfl rfl rfl ?_; refine Zm rfl rfl rfl rfl rfl ?_; refine hx_yes rfl rfl rfl ?_; refine h_move rfl rfl rfl rfl ?_; refine hx_yes rfl rfl rfl ?_)
    refine h_callR rfl rfl rfl rfl rfl rfl EC.out ((lnum_spec pe).reads _) ?_
    (refine hx_yes rfl rfl rfl ?_; refine h_cmp rfl rfl rfl rfl rfl rfl ?_; refine Zq rfl rfl rfl rfl rfl rfl ?_; refine Zt ?_; refine hc_condDF rfl (by omega) ?_; refine hc_skip ?_; refine hq_then ?_; refine hc_seq ?_; refine Zl rfl ?_; refine h_move rfl rfl rfl rfl ?_; refine hx_plain rfl ?_)
    refine h_callR rfl rfl rfl rfl rfl rfl EC.out ((lnum_spec 0).reads _) ?_
    (refine Zc rfl rfl rfl rfl rfl rfl rfl ?_; refine Zt ?_; refine hc_condT rfl ?_; refine Zl rfl ?_)
    refine h_loadP (cs' := (⟨client, seq, ack, epoch, op, id, id2, off, len, path, name, name2, ⟨a1, qd.length, c1⟩⟩ : ReqV).cs) rfl rfl UC.out rfl IC.size (.tail (.tail (.tail .head))) rfl (by kernel_rfl) rfl rfl ?_
    (refine hx_plain rfl ?_)
    refine h_callW (post := EncP bs 0) rfl rfl rfl rfl rfl rfl rfl rfl EC.out (fun w' h => by
      have := encQ_makes (hk.but h.but) ⟨client, seq, ack, epoch, op, id, id2, off, len, path, name, name2, ⟨a1, qd.length, c1⟩⟩ (h.rdRowV .head)
      rw [show encReq ⟨client, seq, ack, epoch, op, id, id2, off, len, path, name, name2, ⟨a1, qd.length, c1⟩⟩ qd = bs from (encReq_dv ⟨client, seq, ack, epoch, op, id, id2, off, len, path, name, name2, ⟨da, dn, dc⟩⟩ ⟨a1, qd.length, c1⟩ f3).trans f1, show ReqV.chk ⟨client, seq, ack, epoch, op, id, id2, off, len, path, name, name2, ⟨a1, qd.length, c1⟩⟩ = 0 from (ReqV.chk_dv ⟨client, seq, ack, epoch, op, id, id2, off, len, path, name, name2, ⟨da, dn, dc⟩⟩ ⟨a1, qd.length, c1⟩ f3).trans f2] at this
      exact this) ?_
    rintro u M ⟨a4, c4, rfl, rfl⟩
    (refine Zm rfl rfl rfl rfl rfl ?_; (iterate 2 (refine hx_plain rfl ?_; refine h_extract rfl rfl rfl rfl rfl ?_)); refine Za rfl rfl rfl rfl rfl ?_; refine Zn rfl rfl rfl rfl rfl ?_; refine Zl rfl ?_)
    refine h_loadP (cs' := (⟨client, seq, ack, epoch, op, id, id2, off, len, path, name, name2, ⟨a1, qd.length, c1⟩⟩ : ReqV).cs) rfl rfl UC.out rfl IC.size (.tail (.tail (.tail (.tail .head)))) rfl (by kernel_rfl) rfl rfl ?_
    (refine hx_plain rfl ?_)
    refine h_callRd (v := .int .i64 0) rfl rfl rfl rfl rfl rfl EC.out (fun w' h => by
      have := checkQ_reads (hk.but h.but) ⟨client, seq, ack, epoch, op, id, id2, off, len, path, name, name2, ⟨a1, qd.length, c1⟩⟩
      rw [show ReqV.chk ⟨client, seq, ack, epoch, op, id, id2, off, len, path, name, name2, ⟨a1, qd.length, c1⟩⟩ = 0 from (ReqV.chk_dv ⟨client, seq, ack, epoch, op, id, id2, off, len, path, name, name2, ⟨da, dn, dc⟩⟩ ⟨a1, qd.length, c1⟩ f3).trans f2] at this
      exact this) ?_
    (refine Zn rfl rfl rfl rfl rfl ?_; refine Zl rfl ?_; refine h_move rfl rfl rfl rfl ?_; refine Zm rfl rfl rfl rfl rfl ?_; refine hx_plain rfl ?_)
    refine h_callRd rfl rfl rfl rfl rfl rfl EC.out (fun w' h => sameBytes (hr.but h.but) (h.rdRowV .head)) ?_
    rw [decide_eq_true rfl]
    (refine Zn rfl rfl rfl rfl rfl ?_; refine Zl rfl ?_; refine h_move rfl rfl rfl rfl ?_; refine Zm rfl rfl rfl rfl rfl ?_; refine hx_yes rfl rfl rfl ?_; refine h_move rfl rfl rfl rfl ?_; refine hx_yes rfl rfl rfl ?_)
    refine h_callR rfl rfl rfl rfl rfl rfl EC.out ((lnum_spec 0).reads _) ?_
    (refine hx_yes rfl rfl rfl ?_; refine h_cmp rfl rfl rfl rfl rfl rfl ?_; refine Zq rfl rfl rfl rfl rfl rfl ?_; refine Zm rfl rfl rfl rfl rfl ?_; refine hx_yes rfl rfl rfl ?_; refine h_move rfl rfl rfl rfl ?_; refine hx_yes rfl rfl rfl ?_)
    refine h_callR rfl rfl rfl rfl rfl rfl EC.out ((lnum_spec 0).reads _) ?_
    (refine hx_yes rfl rfl rfl ?_; refine h_cmp rfl rfl rfl rfl rfl rfl ?_; refine Zq rfl rfl rfl rfl rfl rfl ?_; refine Zm rfl rfl rfl rfl rfl ?_; refine hx_yes rfl rfl rfl ?_; refine h_move rfl rfl rfl rfl ?_; refine hx_yes rfl rfl rfl ?_; refine h_cmp rfl rfl rfl rfl rfl rfl ?_; refine Zq rfl rfl rfl rfl rfl rfl ?_; refine Zn rfl rfl rfl rfl rfl ?_; refine hc_ret ?_; refine hq_ret_then ?_)
    exact hq_ret1 (.inr rfl) rfl rfl ⟨rfl, rfl⟩ (fun _ h => h.emp)
  · (refine hc_seq ?_; refine Zl rfl ?_; refine h_move rfl rfl rfl rfl ?_; refine hx_plain rfl ?_)
    refine h_callR rfl rfl rfl rfl rfl rfl EC.out ((lnum_spec qe).reads _) ?_
    (refine Zc rfl rfl rfl rfl rfl rfl rfl ?_; refine Zm rfl rfl rfl rfl rfl ?_; refine hx_gF rfl rfl rfl (by omega) ?_; (iterate 3 (refine hx_skip rfl rfl rfl rfl rfl rfl ?_)); refine Zp rfl rfl rfl rfl rfl rfl ?_; refine Zt ?_; refine hc_condF rfl ?_; refine hc_skip ?_; refine hq_then ?_; refine hc_seq ?_; refine Zl rfl ?_; refine h_move rfl rfl rfl rfl ?_; refine hx_plain rfl ?_)
    refine h_callR rfl rfl rfl rfl rfl rfl EC.out ((lnum_spec qe).reads _) ?_
    (refine Zc rfl rfl rfl rfl rfl rfl rfl ?_; refine Zt ?_; refine hc_condDF rfl (by omega) ?_; refine hc_skip ?_; refine hq_then ?_; refine hc_seq ?_; refine Zl rfl ?_; refine h_move rfl rfl rfl rfl ?_; refine hx_plain rfl ?_)
    refine h_callR rfl rfl rfl rfl rfl rfl EC.out ((lnum_spec pe).reads _) ?_
    by_cases p0 : pe = 0
    · subst p0
      obtain ⟨f1, f2, f3, f4⟩ := fp rfl
      obtain rfl := kp f4
      (refine Zc rfl rfl rfl rfl rfl rfl rfl ?_; refine Zt ?_; refine hc_condT rfl ?_; refine Zl rfl ?_)
      refine h_loadP (cs' := (⟨pclient, pseq, pepoch, pop, status, aid, akind, asize, achange, ⟨a2, pd.length, c2⟩, ⟨a3, pes.length, c3⟩, more⟩ : RepV).cs) rfl rfl UC.out rfl IC.size (.tail (.tail (.tail (.tail .head)))) rfl (by kernel_rfl) rfl rfl ?_
      (refine hx_plain rfl ?_)
      refine h_callW (post := EncP bs 0) rfl rfl rfl rfl rfl rfl rfl rfl EC.out (fun w' h => by
        have := encP_makes (hk.but h.but) ⟨pclient, pseq, pepoch, pop, status, aid, akind, asize, achange, ⟨a2, pd.length, c2⟩, ⟨a3, pes.length, c3⟩, more⟩ (h.rdRowV (.tail .head)) (h.rdRowV (.tail (.tail .head)))
        rw [show encRep ⟨pclient, pseq, pepoch, pop, status, aid, akind, asize, achange, ⟨a2, pd.length, c2⟩, ⟨a3, pes.length, c3⟩, more⟩ pd pes = bs from (encRep_dv ⟨pclient, pseq, pepoch, pop, status, aid, akind, asize, achange, ⟨pa, pn, pc⟩, ⟨la, ln, lc⟩, more⟩ ⟨a2, pd.length, c2⟩ ⟨a3, pes.length, c3⟩ f3.1 f3.2).trans f1, show RepV.chk ⟨pclient, pseq, pepoch, pop, status, aid, akind, asize, achange, ⟨a2, pd.length, c2⟩, ⟨a3, pes.length, c3⟩, more⟩ pes = 0 from (RepV.chk_dv ⟨pclient, pseq, pepoch, pop, status, aid, akind, asize, achange, ⟨pa, pn, pc⟩, ⟨la, ln, lc⟩, more⟩ pes ⟨a2, pd.length, c2⟩ ⟨a3, pes.length, c3⟩ f3.1 f3.2).trans f2] at this
        exact this) ?_
      rintro u M ⟨a4, c4, rfl, rfl⟩
      (refine Zm rfl rfl rfl rfl rfl ?_; (iterate 2 (refine hx_plain rfl ?_; refine h_extract rfl rfl rfl rfl rfl ?_)); refine Za rfl rfl rfl rfl rfl ?_; refine Zn rfl rfl rfl rfl rfl ?_; refine Zl rfl ?_)
      refine h_loadP (cs' := (⟨pclient, pseq, pepoch, pop, status, aid, akind, asize, achange, ⟨a2, pd.length, c2⟩, ⟨a3, pes.length, c3⟩, more⟩ : RepV).cs) rfl rfl UC.out rfl IC.size (.tail (.tail (.tail (.tail (.tail .head))))) rfl (by kernel_rfl) rfl rfl ?_
      (refine hx_plain rfl ?_)
      refine h_callRd (v := .int .i64 0) rfl rfl rfl rfl rfl rfl EC.out (fun w' h => by
        have := checkP_reads (hk.but h.but) ⟨pclient, pseq, pepoch, pop, status, aid, akind, asize, achange, ⟨a2, pd.length, c2⟩, ⟨a3, pes.length, c3⟩, more⟩ (h.rdRowV (.tail (.tail (.tail .head))))
        rw [show RepV.chk ⟨pclient, pseq, pepoch, pop, status, aid, akind, asize, achange, ⟨a2, pd.length, c2⟩, ⟨a3, pes.length, c3⟩, more⟩ pes = 0 from (RepV.chk_dv ⟨pclient, pseq, pepoch, pop, status, aid, akind, asize, achange, ⟨pa, pn, pc⟩, ⟨la, ln, lc⟩, more⟩ pes ⟨a2, pd.length, c2⟩ ⟨a3, pes.length, c3⟩ f3.1 f3.2).trans f2] at this
        exact this) ?_
      (refine Zn rfl rfl rfl rfl rfl ?_; refine Zl rfl ?_; refine h_move rfl rfl rfl rfl ?_; refine Zm rfl rfl rfl rfl rfl ?_; refine hx_plain rfl ?_)
      refine h_callRd rfl rfl rfl rfl rfl rfl EC.out (fun w' h => sameBytes (hr.but h.but) (h.rdRowV .head)) ?_
      rw [decide_eq_true rfl]
      (refine Zn rfl rfl rfl rfl rfl ?_; refine Zl rfl ?_; refine h_move rfl rfl rfl rfl ?_; refine Zm rfl rfl rfl rfl rfl ?_; refine hx_yes rfl rfl rfl ?_; refine h_move rfl rfl rfl rfl ?_; refine hx_yes rfl rfl rfl ?_)
      refine h_callR rfl rfl rfl rfl rfl rfl EC.out ((lnum_spec 0).reads _) ?_
      (refine hx_yes rfl rfl rfl ?_; refine h_cmp rfl rfl rfl rfl rfl rfl ?_; refine Zq rfl rfl rfl rfl rfl rfl ?_; refine Zm rfl rfl rfl rfl rfl ?_; refine hx_yes rfl rfl rfl ?_; refine h_move rfl rfl rfl rfl ?_; refine hx_yes rfl rfl rfl ?_)
      refine h_callR rfl rfl rfl rfl rfl rfl EC.out ((lnum_spec 0).reads _) ?_
      (refine hx_yes rfl rfl rfl ?_; refine h_cmp rfl rfl rfl rfl rfl rfl ?_; refine Zq rfl rfl rfl rfl rfl rfl ?_; refine Zm rfl rfl rfl rfl rfl ?_; refine hx_yes rfl rfl rfl ?_; refine h_move rfl rfl rfl rfl ?_; refine hx_yes rfl rfl rfl ?_; refine h_cmp rfl rfl rfl rfl rfl rfl ?_; refine Zq rfl rfl rfl rfl rfl rfl ?_; refine Zn rfl rfl rfl rfl rfl ?_; refine hc_ret ?_; refine hq_ret_then ?_)
      exact hq_ret1 (.inr rfl) rfl rfl ⟨rfl, rfl⟩ (fun _ h => h.emp)
    · (refine Zc rfl rfl rfl rfl rfl rfl rfl ?_; refine Zt ?_; refine hc_condDF rfl (by omega) ?_; refine hc_skip ?_; refine hq_then ?_; refine Zl rfl ?_; refine h_assign rfl rfl rfl rfl ?_; refine Zt ?_; refine hc_ret ?_)
      exact hq_ret1 (.inr rfl) rfl rfl ⟨rfl, rfl⟩ (fun _ h => h.emp)
end Go.Proofs.YtfolhmlldoepfaaGreatDoor
namespace Go.Proofs.YtfolhmlldoepfaaGreatDoor
open Go Go.Proofs Go.ChangeShapes Go.WideShapes Go.ChangeAt Go.RowKit
set_option maxRecDepth 100000 in
theorem msgOneForm_contract (H : Type) (enc : TypeId × Value → H) (W : World) (base : Nat) (args : Array Value) (ds gs : List (DataW H)) (before : List MemPlace)
    (hval0 : ∀ (j : Nat) t v, Tryz.f11.params[j]? = some t → args[j]? = some v → Value.okWide Tryz.prog W .any base t v)
    (hW : DataW.Whole enc Tryz.prog Tryz.f11.params.toList Rows.msgOneFormSpec.vars false W args.toList ds gs before)
    (hsz0 : (DataW.weightsEach Tryz.prog (Tryz.f11.params.toList ++ Rows.msgOneFormSpec.plain.varTypes Tryz.prog) (ds ++ gs)).all (· ≤ reachBytes) = true) (hL : laidMetH Tryz.prog lst W) :
    Calls Tryz.prog 11 args W fun e W' => ∃ v, e = .returned v ∧ Rows.msgOneFormSpec.post enc Tryz.prog Tryz.f11 false true false false W args v W' := by
  have hval : ∀ (j : Nat) t v, Tryz.f11.params[j]? = some t → args[j]? = some v → Value.okWide Tryz.prog W .any base t v := hval0
  have hsz := hsz0
  have hW' := hW
  obtain ⟨p, q, hA0, hV, rfl, hfz, hnd⟩ := hW
  have hA : DataW.TrodAll enc Tryz.prog W 0 (fun _ => true) true Tryz.f11.params.toList args.toList ds p := hA0
  rw [Tryz.params11] at hA hval hsz
  obtain ⟨v0, vs0, d0, ds0, p0, q0, hargs, rfl, rfl, h0, r0⟩ := trodAll_cons hA
  obtain ⟨rfl, rfl, rfl⟩ := trodAll_nil r0
  obtain rfl : args = #[v0] := by cases args; simp_all
  obtain ⟨rfl, rfl⟩ := trodVars_none hV
  have k0 := h0
  have lt0 : ∀ x ∈ p0, x.block < W.heap.size := by obtain ⟨m, hm⟩ := k0; exact DataW.trod_lt m _ _ _ hm
  obtain ⟨s0, rd0, by0, dd0⟩ := arg_bytes (hval 0 22 v0 rfl rfl) h0
  have ln0 := bytes_len hsz (jj := 0) rfl rfl dd0
  clear hA0 hval0 hsz0
  have hw := of_laid hL
  refine (form_law hw rd0 by0).mono fun e W' ⟨he, hbut⟩ => ?_
  subst he
  have bel := hbut.below
  exact ⟨_, rfl, _, _, _, [], _, [], hW', trodAll_mk1 (shut_bool Tryz.underlying4 _), (trodAll_cons_mk (Below.trod laidOut (by kernel_rfl) (of_decide_eq_true (by kernel_rfl)) k0 bel lt0) trodAll_mk0), rfl, bel.frame _, fun h => by cases h⟩
theorem msgOneForm_reads (os : Os) {H : Type} (enc : TypeId × Value → H) : ∃ places, DataW.whole enc Tryz.prog ((World.doorLaid Tryz.prog 400 os).forCall (fun _ _ => 0) ⟨#[], #[.slice none 0 0], []⟩).memory Tryz.f11.params.toList Rows.msgOneFormSpec.vars false #[.slice none 0 0].toList 8 = some ([.nil], [], places) :=
  ⟨[], by kernel_rfl⟩
set_option maxRecDepth 100000 in
theorem msgOneForm_lifted (os : Os) (started : os.Started) (H : Type) (enc : TypeId × Value → H) (F : Stop.Interp) :
    ReturnsInHanded {} Tryz.checked os 11 .any ((OpenSpec.ofChange Rows.msgOneFormSpec).preRow enc Tryz.prog Tryz.f11 Rows.msgOneFormRow.domain false Rows.msgOneFormRow.laid) (((OpenSpec.ofChange Rows.msgOneFormSpec).at F).post enc Tryz.prog Tryz.f11 false true false false) := by
  obtain ⟨places, hx⟩ := msgOneForm_reads os enc
  refine returnsInHanded_of_row (C := Tryz.checked) (s := OpenSpec.ofChange Rows.msgOneFormSpec) own started (by kernel_rfl) Tryz.func11
    (witness_row_atRef (enc := enc) (C := Tryz.checked) false (World.doorLaid Tryz.prog 400 os) #[.slice none 0 0] rfl (by kernel_rfl) (by kernel_rfl) (by kernel_rfl)
      (OpenSpec.preRow_of_cond 8 hx (by kernel_rfl) (fun k hk => by cases hk) (by kernel_rfl) (door_met os _))) ?_
  intro W base args ds gs before hval hW _ hcond hsz hL _ _
  exact msgOneForm_contract H enc W base args ds gs before hval hW hsz hL
theorem msgOneForm_over : Rows.msgOneFormRow.holds Tryz.pinned (OpenSpec.ofChange Rows.msgOneFormSpec) :=
  OpenClaim.holds_of_cond 11 Tryz.f11 rfl rfl rfl rfl rfl rfl rfl ⟨rfl, rfl, rfl, rfl, rfl⟩ rfl rfl rfl rfl rfl (by kernel_rfl) Tryz.func11 (by kernel_rfl)
    (of_decide_eq_true (by kernel_rfl)) (by unfold Func.isWrapper; first | (rw [if_pos (by decide +kernel)]; kernel_rfl) | (rw [if_neg (by decide +kernel)]; exact ⟨rfl, rfl⟩))
    (fun os started H enc _ F => by rw [OpenClaim.pre_eq_preRow]; exact msgOneForm_lifted os started H enc F)
set_option maxRecDepth 100000 in
theorem msgOneForm_holds : Rows.MsgOneFormCardSaid :=
  Claim7.holds_tied_plain_at .later [] _ _ _ _ msgOneForm_over (fun _ h => by cases h) (by kernel_rfl) (fun _ h => by cases h) msgOneForm_row_tie rfl ⟨rfl, rfl⟩ (by kernel_rfl) rfl
    (fun f fn hf hfn => by
      obtain rfl : f = 11 := Option.some.inj ((show Tryz.prog.funcNamed "annex/annexlaw4.MsgOneForm" = some 11 by kernel_rfl).symm.trans hf) |>.symm
      obtain rfl : fn = Tryz.f11 := (Option.some.inj (Tryz.func11.symm.trans hfn)).symm
      exact ⟨by kernel_rfl, fun j t ht => by
        rw [Tryz.params11] at ht
        have hm : t ∈ [22] := by simpa using Array.mem_of_getElem? ht
        have hall : ([22].all fun u => !Tryz.prog.wantsStandIn u) = true := by kernel_rfl
        exact (show Tryz.prog.wantsStandIn t = false by simpa using List.all_eq_true.1 hall t hm)⟩)
    (by kernel_rfl)
#print axioms msgOneForm_holds
end Go.Proofs.YtfolhmlldoepfaaGreatDoor
