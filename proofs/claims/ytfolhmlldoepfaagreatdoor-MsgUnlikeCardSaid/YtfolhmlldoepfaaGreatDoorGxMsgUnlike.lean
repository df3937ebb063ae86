/- MsgUnlike: two messages of one datagram are one message. Conditions: none (the tied card). -/
import Derived.Test.YtfolhmlldoepfaaGreatDoorGf
import Derived.Below
import Derived.SizedLaws
import Derived.WalkKit
import Derived.SevenTiedAt
import Derived.JoinedCond
import Derived.Deep.DeepHandedRow
import Derived.Deep.DeepWitnessRowRef
import Derived.Test.YtfolhmlldoepfaaGreatDoorTie
import Derived.Test.YtfolhmlldoepfaaGreatDoorCards
namespace Go.Proofs.YtfolhmlldoepfaaGreatDoor
open Go Go.Proofs Go.RowKit
set_option maxRecDepth 4000
theorem rd_lenS {X : Type} {E : Elem X} {w : World} {sl : SlV} {xs : List X} (h : Rd E w sl.v xs) : xs.length = sl.len := by
  obtain ⟨_, _, e, _⟩ := h
  unfold SlV.v at e
  injection e with _ e _
  exact e.symm
theorem kindQ {l : List Int} (h : l.take 4 = [65, 78, 81, 49]) (hl : 12 ≤ l.length) : kindR l = 1 := by
  unfold kindR
  rw [if_neg (by omega), h, strOf_mgQ, if_pos (beq_self_eq_true _)]
theorem kindP {l : List Int} (h : l.take 4 = [65, 78, 82, 49]) (hl : 12 ≤ l.length) : kindR l = 2 := by
  have hne : (mgR.toList == mgQ.toList) = false := by
    rw [beq_eq_false_iff_ne]
    intro e
    have := toList_inj e
    revert this
    decide
  unfold kindR
  rw [if_neg (by omega), h, strOf_mgR, hne, if_neg Bool.false_ne_true, if_pos (beq_self_eq_true _)]
set_option maxHeartbeats 8000000 in
theorem back_law {w : World} (hk : Known w) (r : ReqV) (y : RepV) {ds ps : List Int} {es : List EntV} (hd : Rd byteE w r.dv.v ds) (hp : Rd byteE w y.dv.v ps) (hl : Rd entE w y.lv.v es) (bd : Byts ds) (bp : Byts ps) :
    Calls Tryz.prog 10 [Value.agg r.cs, Value.agg y.cs].toArray w (fun en w' => en = .returned (.bool true) ∧ But w w' nowhere) := by
  obtain ⟨r0, hr0⟩ : ∃ r0, r0 = r := ⟨_, rfl⟩
  obtain ⟨y0, hy0⟩ : ∃ y0, y0 = y := ⟨_, rfl⟩
  rw [← hr0] at hd
  rw [← hy0] at hp hl
  have hdl : ds.length = r0.dv.len := rd_lenS hd
  have hpl : ps.length = y0.dv.len := rd_lenS hp
  have hll : es.length = y0.lv.len := rd_lenS hl
  obtain ⟨client, seq, ack, epoch, op, id, id2, off, len, path, name, name2, ⟨da, dn, dc⟩⟩ := r
  obtain ⟨pclient, pseq, pepoch, pop, status, aid, akind, asize, achange, ⟨pa, pn, pc⟩, ⟨la, ln, lc⟩, more⟩ := y
  dsimp only [ReqV.cs, RepV.cs, SlV.v]
  refine reads_of Tryz.func10 rfl rfl (Nat.le_of_ble_eq_true rfl) ?_
  (refine Zl rfl ?_; (refine h_box rfl rfl rfl rfl rfl rfl (fun _ => ?_)); refine hx_plain rfl ?_; (refine h_box rfl rfl rfl rfl rfl rfl (fun _ => ?_)); refine Zn rfl rfl rfl rfl rfl ?_; refine Zl rfl ?_)
  refine h_callRd rfl rfl rfl rfl rfl rfl EC.out (fun w' h => head_reads (hk.but h.but)) ?_
  (refine Zn rfl rfl rfl rfl rfl ?_; refine hc_seq ?_; refine Zl rfl ?_; refine h_move rfl rfl rfl rfl ?_; refine hx_plain rfl ?_; refine h_not rfl rfl rfl rfl ?_; refine Zt ?_; refine hc_condF rfl ?_; refine hc_skip ?_; refine hq_then ?_; refine Zl rfl ?_)
  rename_i bq bp'
  refine h_loadP (cs' := #[.int .i64 client, .int .i64 seq, .int .i64 ack, .int .i64 epoch, .int .i64 op, .int .i64 id, .int .i64 id2, .int .i64 off, .int .i64 len, .string path, .string name, .string name2, .slice da dn dc]) rfl rfl UC.out rfl IC.size (.tail .head) rfl (by kernel_rfl) rfl rfl ?_
  (refine hx_plain rfl ?_)
  refine h_callW (post := EncP (encReq r0 ds) r0.chk) rfl rfl rfl rfl rfl rfl rfl rfl EC.out (fun w' h => by have := encQ_makes (hk.but h.but) r0 (hd.but h.but); rw [hr0] at this ⊢; exact this) ?_
  have hdec := decQ_enc (r := r0) (ds := ds) hdl
  have hbq := encReq_byts (r := r0) bd
  have hnil : r0.chk ≠ 0 → encReq r0 ds = [] := fun h => by unfold encReq; rw [if_neg h]
  obtain ⟨eq, heq⟩ : ∃ l, encReq r0 ds = l := ⟨_, rfl⟩
  obtain ⟨ck, hck⟩ : ∃ c, r0.chk = c := ⟨_, rfl⟩
  rw [heq, hck]
  rw [heq, hck] at hdec hnil
  rw [heq] at hbq
  rintro u M ⟨a1, c1, rfl, rfl⟩
  (refine Zm rfl rfl rfl rfl rfl ?_; (iterate 2 (refine hx_plain rfl ?_; refine h_extract rfl rfl rfl rfl rfl ?_)); refine Za rfl rfl rfl rfl rfl ?_; refine Zn rfl rfl rfl rfl rfl ?_; refine Zl rfl ?_)
  refine h_loadP (cs' := #[.int .i64 client, .int .i64 seq, .int .i64 ack, .int .i64 epoch, .int .i64 op, .int .i64 id, .int .i64 id2, .int .i64 off, .int .i64 len, .string path, .string name, .string name2, .slice da dn dc]) rfl rfl UC.out rfl IC.size (.tail (.tail .head)) rfl (by kernel_rfl) rfl rfl ?_
  (refine hx_plain rfl ?_)
  refine h_callRd (v := .int .i64 ck) rfl rfl rfl rfl rfl rfl EC.out (fun w' h => by have := checkQ_reads (hk.but h.but) r0; rw [hck] at this; rw [hr0] at this; exact this) ?_
  (refine Zn rfl rfl rfl rfl rfl ?_)
  refine hc_meet (Y := Unit) (fun _ => [(7, .int .i64 ck), (2, .pointer (some ⟨bq, 0, none⟩)), (3, .pointer (some ⟨bp', 0, none⟩)), (6, .slice a1 eq.length c1)]) (fun _ => [RowV byteE 5 (.slice a1 eq.length c1) eq, Blk bp' (.cells #[.int .i64 pclient, .int .i64 pseq, .int .i64 pepoch, .int .i64 pop, .int .i64 status, .int .i64 aid, .int .i64 akind, .int .i64 asize, .int .i64 achange, .slice pa pn pc, .slice la ln lc, .bool more] 30 (0, 0)), Blk bq (.cells #[.int .i64 client, .int .i64 seq, .int .i64 ack, .int .i64 epoch, .int .i64 op, .int .i64 id, .int .i64 id2, .int .i64 off, .int .i64 len, .string path, .string name, .string name2, .slice da dn dc] 24 (0, 0))]) (fun _ => True) ?_ ?_
  · (refine Zl rfl ?_; refine h_move rfl rfl rfl rfl ?_; refine Zm rfl rfl rfl rfl rfl ?_; refine Zc rfl rfl rfl rfl rfl rfl rfl ?_; refine Zt ?_; refine hc_condDF rfl (by omega) ?_; refine hc_skip ?_)
    exact hq_met () trivial (.cons rfl (.cons rfl (.cons rfl (.cons rfl .nil)))) (fun _ h => h)
  rintro ⟨⟩ _
  refine hc_meet (Y := Unit) (fun _ => [(3, .pointer (some ⟨bp', 0, none⟩))]) (fun _ => [Blk bp' (.cells #[.int .i64 pclient, .int .i64 pseq, .int .i64 pepoch, .int .i64 pop, .int .i64 status, .int .i64 aid, .int .i64 akind, .int .i64 asize, .int .i64 achange, .slice pa pn pc, .slice la ln lc, .bool more] 30 (0, 0))]) (fun _ => True) ?_ ?_
  · (refine Zl rfl ?_; refine h_move rfl rfl rfl rfl ?_; refine hx_plain rfl ?_)
    refine h_callR rfl rfl rfl rfl rfl rfl EC.out ((lnum_spec ck).reads _) ?_
    by_cases hc0 : ck = 0
    · subst hc0
      obtain ⟨d1, d2, d3, d4⟩ := hdec rfl
      have hkn := kindQ d3 d4
      (refine Zc rfl rfl rfl rfl rfl rfl rfl ?_; refine Zt ?_; refine hc_condT rfl ?_; refine Zl rfl ?_; refine h_move rfl rfl rfl rfl ?_; refine hx_plain rfl ?_)
      refine h_callW rfl rfl rfl rfl rfl rfl rfl rfl EC.out (fun w' h => decQ_makes (hk.but h.but) (h.rdRowV .head) hbq) ?_
      rw [d1]
      rintro u M ⟨a3, c3, rfl, rfl⟩
      rw [show ({ (r0.bare ds.length, ds, (0 : Int)).1 with dv := ⟨a3, ds.length, c3⟩ } : ReqV) = ⟨client, seq, ack, epoch, op, id, id2, off, len, path, name, name2, ⟨a3, ds.length, c3⟩⟩ by rw [hr0]; rfl]
      dsimp only [ReqV.cs, SlV.v]
      (refine Zm rfl rfl rfl rfl rfl ?_; (iterate 2 (refine hx_plain rfl ?_; refine h_extract rfl rfl rfl rfl rfl ?_)); refine hx_plain rfl ?_; (refine h_alloc rfl rfl IC.zero rfl rfl rfl (fun _ => ?_)); refine hx_plain rfl ?_; refine h_storeAll rfl rfl rfl rfl rfl rfl IC.size .head rfl rfl rfl (List.all_eq_true.1 rfl) ?_; refine Zn rfl rfl rfl rfl rfl ?_; refine Zl rfl ?_)
      refine h_loadP (cs' := (⟨client, seq, ack, epoch, op, id, id2, off, len, path, name, name2, ⟨a3, ds.length, c3⟩⟩ : ReqV).cs) rfl rfl UC.out rfl IC.size .head rfl (by kernel_rfl) rfl rfl ?_
      (refine hx_plain rfl ?_)
      refine h_loadP (cs' := #[.int .i64 client, .int .i64 seq, .int .i64 ack, .int .i64 epoch, .int .i64 op, .int .i64 id, .int .i64 id2, .int .i64 off, .int .i64 len, .string path, .string name, .string name2, .slice da dn dc]) rfl rfl UC.out rfl IC.size (.tail (.tail (.tail (.tail .head)))) rfl (by kernel_rfl) rfl rfl ?_
      (refine hx_plain rfl ?_)
      refine h_callRd rfl rfl rfl rfl rfl rfl EC.out (fun w' h => sameRequest (a := ⟨client, seq, ack, epoch, op, id, id2, off, len, path, name, name2, ⟨a3, ds.length, c3⟩⟩) (b := ⟨client, seq, ack, epoch, op, id, id2, off, len, path, name, name2, ⟨da, dn, dc⟩⟩) (da := ds) (db := ds) (h.rdRowV (.tail .head)) (by have := hd.but h.but; rw [hr0] at this; exact this)) ?_
      rw [show sameQ ⟨client, seq, ack, epoch, op, id, id2, off, len, path, name, name2, ⟨a3, ds.length, c3⟩⟩ ⟨client, seq, ack, epoch, op, id, id2, off, len, path, name, name2, ⟨da, dn, dc⟩⟩ ds ds = true from by simp [sameQ]]
      (refine Zn rfl rfl rfl rfl rfl ?_; refine Zl rfl ?_; refine h_move rfl rfl rfl rfl ?_; refine hx_plain rfl ?_; refine h_not rfl rfl rfl rfl ?_; refine Zm rfl rfl rfl rfl rfl ?_; refine hx_yes rfl rfl rfl ?_; refine h_move rfl rfl rfl rfl ?_; refine hx_yes rfl rfl rfl ?_)
      refine h_callR rfl rfl rfl rfl rfl rfl EC.out ((lnum_spec 0).reads _) ?_
      (refine hx_yes rfl rfl rfl ?_; refine h_cmp rfl rfl rfl rfl rfl rfl ?_; refine Zp rfl rfl rfl rfl rfl rfl ?_; refine Zm rfl rfl rfl rfl rfl ?_; refine hx_yes rfl rfl rfl ?_; refine h_move rfl rfl rfl rfl ?_; refine hx_yes rfl rfl rfl ?_; refine h_len_slice rfl rfl rfl UC.out rfl rfl rfl ?_; refine hx_yes rfl rfl rfl ?_; refine h_cmp rfl rfl rfl rfl rfl rfl ?_; refine Zp rfl rfl rfl rfl rfl rfl ?_; refine Zm rfl rfl rfl rfl rfl ?_; refine hx_gF rfl rfl rfl (by omega) ?_; refine hx_yes rfl rfl rfl ?_; refine h_move rfl rfl rfl rfl ?_; refine hx_yes rfl rfl rfl ?_)
      refine h_callRd rfl rfl rfl rfl rfl rfl EC.out (fun w' h => kind_reads (h.rdRowV (.tail (.tail .head)))) ?_
      rw [hkn]
      (refine hx_yes rfl rfl rfl ?_; refine h_cmp rfl rfl rfl rfl rfl rfl ?_; refine Zp rfl rfl rfl rfl rfl rfl ?_; refine Zt ?_; refine hc_condF rfl ?_; refine hc_skip ?_)
      exact hq_met () trivial (.cons rfl .nil) (fun _ h => by (refine St.sub ?_ h; refine .cons (.tail (.tail (.tail .head))) ?_; exact .nil))
    · have hnl := hnil hc0
      subst hnl
      (refine Zc rfl rfl rfl rfl rfl rfl rfl ?_; refine Zt ?_; refine hc_condDF rfl (by omega) ?_; refine Zl rfl ?_; refine h_move rfl rfl rfl rfl ?_; refine hx_plain rfl ?_; refine h_len_slice rfl rfl rfl UC.out rfl rfl rfl ?_; refine Zc rfl rfl rfl rfl rfl rfl rfl ?_; refine Zt ?_; refine hc_condF rfl ?_; refine hc_skip ?_)
      exact hq_met () trivial (.cons rfl .nil) (fun _ h => by (refine St.sub ?_ h; (with_reducible refine .cons (.tail .head) ?_); exact .nil))
  rintro ⟨⟩ _
  clear hdec hbq hnil heq hck
  (refine Zl rfl ?_)
  refine h_loadP (cs' := #[.int .i64 pclient, .int .i64 pseq, .int .i64 pepoch, .int .i64 pop, .int .i64 status, .int .i64 aid, .int .i64 akind, .int .i64 asize, .int .i64 achange, .slice pa pn pc, .slice la ln lc, .bool more]) rfl rfl UC.out rfl IC.size .head rfl (by kernel_rfl) rfl rfl ?_
  (refine hx_plain rfl ?_)
  refine h_callW (post := EncP (encRep y0 ps es) (y0.chk es)) rfl rfl rfl rfl rfl rfl rfl rfl EC.out (fun w' h => by have := encP_makes (hk.but h.but) y0 (hp.but h.but) (hl.but h.but); rw [hy0] at this ⊢; exact this) ?_
  have hdec := decP_enc (r := y0) (ds := ps) (es := es) hpl hll
  have hbp := encRep_byts (r := y0) (es := es) bp
  have hnil : y0.chk es ≠ 0 → encRep y0 ps es = [] := fun h => by unfold encRep; rw [if_neg h]
  obtain ⟨ep, hep⟩ : ∃ l, encRep y0 ps es = l := ⟨_, rfl⟩
  obtain ⟨ck2, hck⟩ : ∃ c, y0.chk es = c := ⟨_, rfl⟩
  rw [hep, hck]
  rw [hep, hck] at hdec hnil
  rw [hep] at hbp
  rintro u M ⟨a2, c2, rfl, rfl⟩
  (refine Zm rfl rfl rfl rfl rfl ?_; (iterate 2 (refine hx_plain rfl ?_; refine h_extract rfl rfl rfl rfl rfl ?_)); refine Za rfl rfl rfl rfl rfl ?_; refine Zn rfl rfl rfl rfl rfl ?_; refine Zl rfl ?_)
  refine h_loadP (cs' := #[.int .i64 pclient, .int .i64 pseq, .int .i64 pepoch, .int .i64 pop, .int .i64 status, .int .i64 aid, .int .i64 akind, .int .i64 asize, .int .i64 achange, .slice pa pn pc, .slice la ln lc, .bool more]) rfl rfl UC.out rfl IC.size (.tail .head) rfl (by kernel_rfl) rfl rfl ?_
  (refine hx_plain rfl ?_)
  refine h_callRd (v := .int .i64 ck2) rfl rfl rfl rfl rfl rfl EC.out (fun w' h => by have := checkP_reads (hk.but h.but) y0 (hl.but h.but); rw [hck] at this; rw [hy0] at this; exact this) ?_
  by_cases hc0 : ck2 = 0
  · subst hc0
    obtain ⟨d1, d2, d3, d4⟩ := hdec rfl
    have hkn := kindP d3 d4
    (refine Zn rfl rfl rfl rfl rfl ?_; refine hc_seq ?_; refine Zl rfl ?_; refine h_move rfl rfl rfl rfl ?_; refine Zm rfl rfl rfl rfl rfl ?_; refine Zc rfl rfl rfl rfl rfl rfl rfl ?_; refine Zm rfl rfl rfl rfl rfl ?_; refine hx_yes rfl rfl rfl ?_; refine h_move rfl rfl rfl rfl ?_; refine hx_yes rfl rfl rfl ?_)
    refine h_callR rfl rfl rfl rfl rfl rfl EC.out ((lnum_spec 0).reads _) ?_
    (refine hx_yes rfl rfl rfl ?_; refine h_cmp rfl rfl rfl rfl rfl rfl ?_; refine Zp rfl rfl rfl rfl rfl rfl ?_; refine Zt ?_; refine hc_condF rfl ?_; refine hc_skip ?_; refine hq_then ?_; refine Zl rfl ?_; refine h_move rfl rfl rfl rfl ?_; refine hx_plain rfl ?_)
    refine h_callW rfl rfl rfl rfl rfl rfl rfl rfl EC.out (fun w' h => decP_makes (hk.but h.but) (h.rdRowV .head) hbp) ?_
    rw [d1]
    rintro u M ⟨b3, k3, b4, k4, rfl, rfl⟩
    rw [show ({ (y0.bare ps.length es.length, ps, es, (0 : Int)).1 with dv := ⟨b3, ps.length, k3⟩, lv := ⟨b4, es.length, k4⟩ } : RepV) = ⟨pclient, pseq, pepoch, pop, status, aid, akind, asize, achange, ⟨b3, ps.length, k3⟩, ⟨b4, es.length, k4⟩, more⟩ by rw [hy0]; rfl]
    dsimp only [RepV.cs, SlV.v]
    (refine Zm rfl rfl rfl rfl rfl ?_; (iterate 2 (refine hx_plain rfl ?_; refine h_extract rfl rfl rfl rfl rfl ?_)); refine hx_plain rfl ?_; (refine h_alloc rfl rfl IC.zero rfl rfl rfl (fun _ => ?_)); refine hx_plain rfl ?_; refine h_storeAll rfl rfl rfl rfl rfl rfl IC.size .head rfl rfl rfl (List.all_eq_true.1 rfl) ?_; refine Zn rfl rfl rfl rfl rfl ?_; refine Zl rfl ?_)
    refine h_loadP (cs' := (⟨pclient, pseq, pepoch, pop, status, aid, akind, asize, achange, ⟨b3, ps.length, k3⟩, ⟨b4, es.length, k4⟩, more⟩ : RepV).cs) rfl rfl UC.out rfl IC.size .head rfl (by kernel_rfl) rfl rfl ?_
    (refine hx_plain rfl ?_)
    refine h_loadP (cs' := #[.int .i64 pclient, .int .i64 pseq, .int .i64 pepoch, .int .i64 pop, .int .i64 status, .int .i64 aid, .int .i64 akind, .int .i64 asize, .int .i64 achange, .slice pa pn pc, .slice la ln lc, .bool more]) rfl rfl UC.out rfl IC.size (.tail (.tail (.tail (.tail .head)))) rfl (by kernel_rfl) rfl rfl ?_
    (refine hx_plain rfl ?_)
    refine h_callRd rfl rfl rfl rfl rfl rfl EC.out (fun w' h => sameReply (a := ⟨pclient, pseq, pepoch, pop, status, aid, akind, asize, achange, ⟨b3, ps.length, k3⟩, ⟨b4, es.length, k4⟩, more⟩) (b := ⟨pclient, pseq, pepoch, pop, status, aid, akind, asize, achange, ⟨pa, pn, pc⟩, ⟨la, ln, lc⟩, more⟩) (da := ps) (db := ps) (ea := es) (eb := es) (h.rdRowV (.tail .head)) (by have := hp.but h.but; rw [hy0] at this; exact this) (h.rdRowV (.tail (.tail .head))) (by have := hl.but h.but; rw [hy0] at this; exact this)) ?_
    rw [show sameP ⟨pclient, pseq, pepoch, pop, status, aid, akind, asize, achange, ⟨b3, ps.length, k3⟩, ⟨b4, es.length, k4⟩, more⟩ ⟨pclient, pseq, pepoch, pop, status, aid, akind, asize, achange, ⟨pa, pn, pc⟩, ⟨la, ln, lc⟩, more⟩ ps ps es es = true from by simp [sameP]]
    (refine Zn rfl rfl rfl rfl rfl ?_; refine Zl rfl ?_; refine h_move rfl rfl rfl rfl ?_; refine Zm rfl rfl rfl rfl rfl ?_; refine hx_yes rfl rfl rfl ?_; refine h_move rfl rfl rfl rfl ?_; refine hx_yes rfl rfl rfl ?_)
    refine h_callR rfl rfl rfl rfl rfl rfl EC.out ((lnum_spec 0).reads _) ?_
    (refine hx_yes rfl rfl rfl ?_; refine h_cmp rfl rfl rfl rfl rfl rfl ?_; refine Zq rfl rfl rfl rfl rfl rfl ?_; refine Zm rfl rfl rfl rfl rfl ?_; refine hx_yes rfl rfl rfl ?_; refine h_move rfl rfl rfl rfl ?_; refine hx_yes rfl rfl rfl ?_; refine h_len_slice rfl rfl rfl UC.out rfl rfl rfl ?_; refine hx_yes rfl rfl rfl ?_; refine h_cmp rfl rfl rfl rfl rfl rfl ?_; refine Zq rfl rfl rfl rfl rfl rfl ?_; refine Zm rfl rfl rfl rfl rfl ?_; refine hx_gT rfl rfl rfl (by omega) ?_; refine hx_yes rfl rfl rfl ?_; refine h_move rfl rfl rfl rfl ?_; refine hx_yes rfl rfl rfl ?_)
    refine h_callRd rfl rfl rfl rfl rfl rfl EC.out (fun w' h => kind_reads (h.rdRowV (.tail (.tail (.tail .head))))) ?_
    rw [hkn]
    (refine hx_yes rfl rfl rfl ?_; refine h_cmp rfl rfl rfl rfl rfl rfl ?_; refine Zq rfl rfl rfl rfl rfl rfl ?_; refine Zn rfl rfl rfl rfl rfl ?_; refine hc_ret ?_)
    exact hq_ret1 (.inr rfl) rfl rfl ⟨rfl, rfl⟩ (fun _ h => h.emp)
  · have hnl := hnil hc0
    subst hnl
    (refine Zn rfl rfl rfl rfl rfl ?_; refine hc_seq ?_; refine Zl rfl ?_; refine h_move rfl rfl rfl rfl ?_; refine Zm rfl rfl rfl rfl rfl ?_; refine Zc rfl rfl rfl rfl rfl rfl rfl ?_; refine Zm rfl rfl rfl rfl rfl ?_; refine hx_gF rfl rfl rfl (by omega) ?_; refine hx_yes rfl rfl rfl ?_; refine h_move rfl rfl rfl rfl ?_; refine hx_yes rfl rfl rfl ?_)
    refine h_callR rfl rfl rfl rfl rfl rfl EC.out ((lnum_spec ck2).reads _) ?_
    (refine hx_yes rfl rfl rfl ?_; refine h_cmp rfl rfl rfl rfl rfl rfl ?_; refine Zp rfl rfl rfl rfl rfl rfl ?_; refine Zt ?_; refine hc_condDT rfl (by omega) ?_; refine Zl rfl ?_; refine h_move rfl rfl rfl rfl ?_; refine Zm rfl rfl rfl rfl rfl ?_; refine Zc rfl rfl rfl rfl rfl rfl rfl ?_; refine Zm rfl rfl rfl rfl rfl ?_; refine hx_gT rfl rfl rfl (by omega) ?_; refine hx_yes rfl rfl rfl ?_; refine h_move rfl rfl rfl rfl ?_; refine hx_yes rfl rfl rfl ?_; refine h_len_slice rfl rfl rfl UC.out rfl rfl rfl ?_; refine hx_yes rfl rfl rfl ?_; refine h_cmp rfl rfl rfl rfl rfl rfl ?_; refine Zq rfl rfl rfl rfl rfl rfl ?_; refine Zn rfl rfl rfl rfl rfl ?_; refine hc_ret ?_; refine hq_ret_then ?_)
    exact hq_ret1 (.inr rfl) rfl rfl ⟨rfl, rfl⟩ (fun _ h => h.emp)
end Go.Proofs.YtfolhmlldoepfaaGreatDoor
namespace Go.Proofs.YtfolhmlldoepfaaGreatDoor
open Go Go.Proofs Go.RowKit
set_option maxRecDepth 4000
theorem encReq_dv (r : ReqV) (sl : SlV) {ds : List Int} (h : sl.len = r.dv.len) : encReq { r with dv := sl } ds = encReq r ds := by
  unfold encReq
  rw [r.chk_dv sl h, encQ_dv]
  rfl
theorem encRep_dv (r : RepV) (sl ll : SlV) {ds : List Int} {es : List EntV} (h : sl.len = r.dv.len) (h2 : ll.len = r.lv.len) : encRep { r with dv := sl, lv := ll } ds es = encRep r ds es := by
  unfold encRep
  rw [r.chk_dv es sl ll h h2, encP_dv]
  rfl
theorem mg_apart {bs : List Int} (hb : Byts bs) (h1 : openE bs mgQ = 0) (h2 : openE bs mgR = 0) : False := by
  obtain ⟨_, _, e1, _⟩ := open_ok hb h1
  obtain ⟨_, _, e2, _⟩ := open_ok hb h2
  rw [e1] at e2
  revert e2
  decide
theorem open_kindQ {bs : List Int} (hb : Byts bs) (h : openE bs mgQ = 0) : kindR bs = 1 := by
  obtain ⟨_, h12, e1, _⟩ := open_ok hb h
  exact kindQ e1 h12
theorem open_kindP {bs : List Int} (hb : Byts bs) (h : openE bs mgR = 0) : kindR bs = 2 := by
  obtain ⟨_, h12, e1, _⟩ := open_ok hb h
  exact kindP e1 h12
set_option maxHeartbeats 8000000 in
theorem form_law {w : World} (hk : Known w) {v : Value} {bs : List Int} (hr : Rd byteE w v bs) (hb : Byts bs) :
    Calls Tryz.prog 11 [v].toArray w (fun en w' => en = .returned (.bool true) ∧ But w w' nowhere) := by
  have fq := enc_decQ hb
  have fp := enc_decP hb
  have kq := open_kindQ hb
  have kp := open_kindP hb
  have ap := mg_apart hb
  refine reads_of Tryz.func11 rfl rfl (Nat.le_of_ble_eq_true rfl) ?_
  (refine Zl rfl ?_; refine h_assign rfl rfl rfl rfl ?_; refine Zt ?_; refine Zl rfl ?_)
  refine h_callRd rfl rfl rfl rfl rfl rfl EC.out (fun w' h => head_reads (hk.but h.but)) ?_
  (refine Zn rfl rfl rfl rfl rfl ?_; refine hc_seq ?_; refine Zl rfl ?_; refine h_move rfl rfl rfl rfl ?_; refine hx_plain rfl ?_; refine h_not rfl rfl rfl rfl ?_; refine Zt ?_; refine hc_condF rfl ?_; refine hc_skip ?_; refine hq_then ?_; refine Zl rfl ?_; refine h_move rfl rfl rfl rfl ?_; refine hx_plain rfl ?_)
  refine h_callW rfl rfl rfl rfl rfl rfl rfl rfl EC.out (fun w' h => decQ_makes (hk.but h.but) (hr.but h.but) hb) ?_
  obtain ⟨⟨⟨client, seq, ack, epoch, op, id, id2, off, len, path, name, name2, ⟨da, dn, dc⟩⟩, qd, qe⟩, hdq⟩ : ∃ d, decQ bs = d := ⟨_, rfl⟩
  rw [hdq] at fq ⊢
  dsimp only at fq
  rintro u M ⟨a1, c1, rfl, rfl⟩
  dsimp only [ReqV.cs, SlV.v]
  (refine Zm rfl rfl rfl rfl rfl ?_; (iterate 2 (refine hx_plain rfl ?_; refine h_extract rfl rfl rfl rfl rfl ?_)); refine hx_plain rfl ?_; (refine h_alloc rfl rfl IC.zero rfl rfl rfl (fun _ => ?_)); refine hx_plain rfl ?_; refine h_storeAll rfl rfl rfl rfl rfl rfl IC.size .head rfl rfl rfl (List.all_eq_true.1 rfl) ?_; refine Zn rfl rfl rfl rfl rfl ?_; refine Zl rfl ?_; refine h_move rfl rfl rfl rfl ?_; refine hx_plain rfl ?_)
  refine h_callW rfl rfl rfl rfl rfl rfl rfl rfl EC.out (fun w' h => decP_makes (hk.but h.but) (hr.but h.but) hb) ?_
  obtain ⟨⟨⟨pclient, pseq, pepoch, pop, status, aid, akind, asize, achange, ⟨pa, pn, pc⟩, ⟨la, ln, lc⟩, more⟩, pd, pes, pe⟩, hdp⟩ : ∃ d, decP bs = d := ⟨_, rfl⟩
  rw [hdp] at fp ⊢
  dsimp only at fp
  rintro u M ⟨a2, c2, a3, c3, rfl, rfl⟩
  dsimp only [RepV.cs, SlV.v]
  (refine Zm rfl rfl rfl rfl rfl ?_; (iterate 2 (refine hx_plain rfl ?_; refine h_extract rfl rfl rfl rfl rfl ?_)); refine hx_plain rfl ?_; (refine h_alloc rfl rfl IC.zero rfl rfl rfl (fun _ => ?_)); refine hx_plain rfl ?_; refine h_storeAll rfl rfl rfl rfl rfl rfl IC.size .head rfl rfl rfl (List.all_eq_true.1 rfl) ?_; refine Zn rfl rfl rfl rfl rfl ?_; refine Zl rfl ?_; refine h_move rfl rfl rfl rfl ?_; refine hx_plain rfl ?_)
  rename_i bq bp
  refine h_callRd rfl rfl rfl rfl rfl rfl EC.out (fun w' h => kind_reads (hr.but h.but)) ?_
  (refine Zn rfl rfl rfl rfl rfl ?_)
  refine hc_st (C' := St w nowhere [RowV byteE 5 (.slice a1 qd.length c1) qd, RowV byteE 5 (.slice a2 pd.length c2) pd, RowV entE 94 (.slice a3 pes.length c3) pes, Blk bq (.cells (⟨client, seq, ack, epoch, op, id, id2, off, len, path, name, name2, ⟨a1, qd.length, c1⟩⟩ : ReqV).cs 24 (0, 0)), Blk bp (.cells (⟨pclient, pseq, pepoch, pop, status, aid, akind, asize, achange, ⟨a2, pd.length, c2⟩, ⟨a3, pes.length, c3⟩, more⟩ : RepV).cs 30 (0, 0))]) (fun _ h => by (refine St.sub ?_ h; refine .cons (.tail (.tail (.tail (.tail .head)))) ?_; (with_reducible refine .cons (.tail .head) ?_); (with_reducible refine .cons (.tail .head) ?_); (with_reducible refine .cons (.tail .head) ?_); (with_reducible refine .cons .head ?_); exact .nil)) ?_
  obtain ⟨kd, hkd⟩ : ∃ k, kindR bs = k := ⟨_, rfl⟩
  rw [hkd] at kq kp ⊢
  by_cases q0 : qe = 0
  · subst q0
    obtain ⟨f1, f2, f3, f4⟩ := fq rfl
    have hpe : ¬ pe = 0 := fun h => ap f4 (fp h).2.2.2
    obtain rfl := kq f4
    (refine hc_seq ?_; refine Zl rfl ?_; refine h_move rfl rfl rfl rfl ?_; refine hx_plain rfl ?_)
    refine h_callR rfl rfl rfl rfl rfl rfl EC.out ((lnum_spec 0).reads _) ?_
    (refine Zc rfl rfl rfl rfl rfl rfl rfl ?_; refine Zm rfl rfl rfl rfl rfl ?_; refine hx_yes rfl rfl rfl ?_; refine h_move rfl rfl rfl rfl ?_; refine hx_yes rfl rfl rfl ?_)
    refine h_callR rfl rfl rfl rfl rfl rfl EC.out ((lnum_spec pe).reads _) ?_
    (refine hx_yes rfl rfl rfl ?_; refine h_cmp rfl rfl rfl rfl rfl rfl ?_; refine Zq rfl rfl rfl rfl rfl rfl ?_; refine Zt ?_; refine hc_condDF rfl (by omega) ?_; refine hc_skip ?_; refine hq_then ?_; refine hc_seq ?_; refine Zl rfl ?_; refine h_move rfl rfl rfl rfl ?_; refine hx_plain rfl ?_)
    refine h_callR rfl rfl rfl rfl rfl rfl EC.out ((lnum_spec 0).reads _) ?_
    (refine Zc rfl rfl rfl rfl rfl rfl rfl ?_; refine Zt ?_; refine hc_condT rfl ?_; refine Zl rfl ?_)
    refine h_loadP (cs' := (⟨client, seq, ack, epoch, op, id, id2, off, len, path, name, name2, ⟨a1, qd.length, c1⟩⟩ : ReqV).cs) rfl rfl UC.out rfl IC.size (.tail (.tail (.tail .head))) rfl (by kernel_rfl) rfl rfl ?_
    (refine hx_plain rfl ?_)
    refine h_callW (post := EncP bs 0) rfl rfl rfl rfl rfl rfl rfl rfl EC.out (fun w' h => by
      have := encQ_makes (hk.but h.but) ⟨client, seq, ack, epoch, op, id, id2, off, len, path, name, name2, ⟨a1, qd.length, c1⟩⟩ (h.rdRowV .head)
      rw [show encReq ⟨client, seq, ack, epoch, op, id, id2, off, len, path, name, name2, ⟨a1, qd.length, c1⟩⟩ qd = bs from (encReq_dv ⟨client, seq, ack, epoch, op, id, id2, off, len, path, name, name2, ⟨da, dn, dc⟩⟩ ⟨a1, qd.length, c1⟩ f3).trans f1, show ReqV.chk ⟨client, seq, ack, epoch, op, id, id2, off, len, path, name, name2, ⟨a1, qd.length, c1⟩⟩ = 0 from (ReqV.chk_dv ⟨client, seq, ack, epoch, op, id, id2, off, len, path, name, name2, ⟨da, dn, dc⟩⟩ ⟨a1, qd.length, c1⟩ f3).trans f2] at this
      exact this) ?_
    rintro u M ⟨a4, c4, rfl, rfl⟩
    (refine Zm rfl rfl rfl rfl rfl ?_; (iterate 2 (refine hx_plain rfl ?_; refine h_extract rfl rfl rfl rfl rfl ?_)); refine Za rfl rfl rfl rfl rfl ?_; refine Zn rfl rfl rfl rfl rfl ?_; refine Zl rfl ?_)
    refine h_loadP (cs' := (⟨client, seq, ack, epoch, op, id, id2, off, len, path, name, name2, ⟨a1, qd.length, c1⟩⟩ : ReqV).cs) rfl rfl UC.out rfl IC.size (.tail (.tail (.tail (.tail .head)))) rfl (by kernel_rfl) rfl rfl ?_
    (refine hx_plain rfl ?_)
    refine h_callRd (v := .int .i64 0) rfl rfl rfl rfl rfl rfl EC.out (fun w' h => by
      have := checkQ_reads (hk.but h.but) ⟨client, seq, ack, epoch, op, id, id2, off, len, path, name, name2, ⟨a1, qd.length, c1⟩⟩
      rw [show ReqV.chk ⟨client, seq, ack, epoch, op, id, id2, off, len, path, name, name2, ⟨a1, qd.length, c1⟩⟩ = 0 from (ReqV.chk_dv ⟨client, seq, ack, epoch, op, id, id2, off, len, path, name, name2, ⟨da, dn, dc⟩⟩ ⟨a1, qd.length, c1⟩ f3).trans f2] at this
      exact this) ?_
    (refine Zn rfl rfl rfl rfl rfl ?_; refine Zl rfl ?_; refine h_move rfl rfl rfl rfl ?_; refine Zm rfl rfl rfl rfl rfl ?_; refine hx_plain rfl ?_)
    refine h_callRd rfl rfl rfl rfl rfl rfl EC.out (fun w' h => sameBytes (hr.but h.but) (h.rdRowV .head)) ?_
    rw [decide_eq_true rfl]
    (refine Zn rfl rfl rfl rfl rfl ?_; refine Zl rfl ?_; refine h_move rfl rfl rfl rfl ?_; refine Zm rfl rfl rfl rfl rfl ?_; refine hx_yes rfl rfl rfl ?_; refine h_move rfl rfl rfl rfl ?_; refine hx_yes rfl rfl rfl ?_)
    refine h_callR rfl rfl rfl rfl rfl rfl EC.out ((lnum_spec 0).reads _) ?_
    (refine hx_yes rfl rfl rfl ?_; refine h_cmp rfl rfl rfl rfl rfl rfl ?_; refine Zq rfl rfl rfl rfl rfl rfl ?_; refine Zm rfl rfl rfl rfl rfl ?_; refine hx_yes rfl rfl rfl ?_; refine h_move rfl rfl rfl rfl ?_; refine hx_yes rfl rfl rfl ?_)
    refine h_callR rfl rfl rfl rfl rfl rfl EC.out ((lnum_spec 0).reads _) ?_
    (refine hx_yes rfl rfl rfl ?_; refine h_cmp rfl rfl rfl rfl rfl rfl ?_; refine Zq rfl rfl rfl rfl rfl rfl ?_; refine Zm rfl rfl rfl rfl rfl ?_; refine hx_yes rfl rfl rfl ?_; refine h_move rfl rfl rfl rfl ?_; refine hx_yes rfl rfl rfl ?_; refine h_cmp rfl rfl rfl rfl rfl rfl ?_; refine Zq rfl rfl rfl rfl rfl rfl ?_; refine Zn rfl rfl rfl rfl rfl ?_; refine hc_ret ?_; refine hq_ret_then ?_)
    exact hq_ret1 (.inr rfl) rfl rfl ⟨rfl, rfl⟩ (fun _ h => h.emp)
  · (refine hc_seq ?_; refine Zl rfl ?_; refine h_move rfl rfl rfl rfl ?_; refine hx_plain rfl ?_)
    refine h_callR rfl rfl rfl rfl rfl rfl EC.out ((lnum_spec qe).reads _) ?_
    (refine Zc rfl rfl rfl rfl rfl rfl rfl ?_; refine Zm rfl rfl rfl rfl rfl ?_; refine hx_gF rfl rfl rfl (by omega) ?_; (iterate 3 (refine hx_skip rfl rfl rfl rfl rfl rfl ?_)); refine Zp rfl rfl rfl rfl rfl rfl ?_; refine Zt ?_; refine hc_condF rfl ?_; refine hc_skip ?_; refine hq_then ?_; refine hc_seq ?_; refine Zl rfl ?_; refine h_move rfl rfl rfl rfl ?_; refine hx_plain rfl ?_)
    refine h_callR rfl rfl rfl rfl rfl rfl EC.out ((lnum_spec qe).reads _) ?_
    (refine Zc rfl rfl rfl rfl rfl rfl rfl ?_; refine Zt ?_; refine hc_condDF rfl (by omega) ?_; refine hc_skip ?_; refine hq_then ?_; refine hc_seq ?_; refine Zl rfl ?_; refine h_move rfl rfl rfl rfl ?_; refine hx_plain rfl ?_)
    refine h_callR rfl rfl rfl rfl rfl rfl EC.out ((lnum_spec pe).reads _) ?_
    by_cases p0 : pe = 0
    · subst p0
      obtain ⟨f1, f2, f3, f4⟩ := fp rfl
      obtain rfl := kp f4
      (refine Zc rfl rfl rfl rfl rfl rfl rfl ?_; refine Zt ?_; refine hc_condT rfl ?_; refine Zl rfl ?_)
      refine h_loadP (cs' := (⟨pclient, pseq, pepoch, pop, status, aid, akind, asize, achange, ⟨a2, pd.length, c2⟩, ⟨a3, pes.length, c3⟩, more⟩ : RepV).cs) rfl rfl UC.out rfl IC.size (.tail (.tail (.tail (.tail .head)))) rfl (by kernel_rfl) rfl rfl ?_
      (refine hx_plain rfl ?_)
      refine h_callW (post := EncP bs 0) rfl rfl rfl rfl rfl rfl rfl rfl EC.out (fun w' h => by
        have := encP_makes (hk.but h.but) ⟨pclient, pseq, pepoch, pop, status, aid, akind, asize, achange, ⟨a2, pd.length, c2⟩, ⟨a3, pes.length, c3⟩, more⟩ (h.rdRowV (.tail .head)) (h.rdRowV (.tail (.tail .head)))
        rw [show encRep ⟨pclient, pseq, pepoch, pop, status, aid, akind, asize, achange, ⟨a2, pd.length, c2⟩, ⟨a3, pes.length, c3⟩, more⟩ pd pes = bs from (encRep_dv ⟨pclient, pseq, pepoch, pop, status, aid, akind, asize, achange, ⟨pa, pn, pc⟩, ⟨la, ln, lc⟩, more⟩ ⟨a2, pd.length, c2⟩ ⟨a3, pes.length, c3⟩ f3.1 f3.2).trans f1, show RepV.chk ⟨pclient, pseq, pepoch, pop, status, aid, akind, asize, achange, ⟨a2, pd.length, c2⟩, ⟨a3, pes.length, c3⟩, more⟩ pes = 0 from (RepV.chk_dv ⟨pclient, pseq, pepoch, pop, status, aid, akind, asize, achange, ⟨pa, pn, pc⟩, ⟨la, ln, lc⟩, more⟩ pes ⟨a2, pd.length, c2⟩ ⟨a3, pes.length, c3⟩ f3.1 f3.2).trans f2] at this
        exact this) ?_
      rintro u M ⟨a4, c4, rfl, rfl⟩
      (refine Zm rfl rfl rfl rfl rfl ?_; (iterate 2 (refine hx_plain rfl ?_; refine h_extract rfl rfl rfl rfl rfl ?_)); refine Za rfl rfl rfl rfl rfl ?_; refine Zn rfl rfl rfl rfl rfl ?_; refine Zl rfl ?_)
      refine h_loadP (cs' := (⟨pclient, pseq, pepoch, pop, status, aid, akind, asize, achange, ⟨a2, pd.length, c2⟩, ⟨a3, pes.length, c3⟩, more⟩ : RepV).cs) rfl rfl UC.out rfl IC.size (.tail (.tail (.tail (.tail (.tail .head))))) rfl (by kernel_rfl) rfl rfl ?_
      (refine hx_plain rfl ?_)
      refine h_callRd (v := .int .i64 0) rfl rfl rfl rfl rfl rfl EC.out (fun w' h => by
        have := checkP_reads (hk.but h.but) ⟨pclient, pseq, pepoch, pop, status, aid, akind, asize, achange, ⟨a2, pd.length, c2⟩, ⟨a3, pes.length, c3⟩, more⟩ (h.rdRowV (.tail (.tail (.tail .head))))
        rw [show RepV.chk ⟨pclient, pseq, pepoch, pop, status, aid, akind, asize, achange, ⟨a2, pd.length, c2⟩, ⟨a3, pes.length, c3⟩, more⟩ pes = 0 from (RepV.chk_dv ⟨pclient, pseq, pepoch, pop, status, aid, akind, asize, achange, ⟨pa, pn, pc⟩, ⟨la, ln, lc⟩, more⟩ pes ⟨a2, pd.length, c2⟩ ⟨a3, pes.length, c3⟩ f3.1 f3.2).trans f2] at this
        exact this) ?_
      (refine Zn rfl rfl rfl rfl rfl ?_; refine Zl rfl ?_; refine h_move rfl rfl rfl rfl ?_; refine Zm rfl rfl rfl rfl rfl ?_; refine hx_plain rfl ?_)
      refine h_callRd rfl rfl rfl rfl rfl rfl EC.out (fun w' h => sameBytes (hr.but h.but) (h.rdRowV .head)) ?_
      rw [decide_eq_true rfl]
      (refine Zn rfl rfl rfl rfl rfl ?_; refine Zl rfl ?_; refine h_move rfl rfl rfl rfl ?_; refine Zm rfl rfl rfl rfl rfl ?_; refine hx_yes rfl rfl rfl ?_; refine h_move rfl rfl rfl rfl ?_; refine hx_yes rfl rfl rfl ?_)
      refine h_callR rfl rfl rfl rfl rfl rfl EC.out ((lnum_spec 0).reads _) ?_
      (refine hx_yes rfl rfl rfl ?_; refine h_cmp rfl rfl rfl rfl rfl rfl ?_; refine Zq rfl rfl rfl rfl rfl rfl ?_; refine Zm rfl rfl rfl rfl rfl ?_; refine hx_yes rfl rfl rfl ?_; refine h_move rfl rfl rfl rfl ?_; refine hx_yes rfl rfl rfl ?_)
      refine h_callR rfl rfl rfl rfl rfl rfl EC.out ((lnum_spec 0).reads _) ?_
      (refine hx_yes rfl rfl rfl ?_; refine h_cmp rfl rfl rfl rfl rfl rfl ?_; refine Zq rfl rfl rfl rfl rfl rfl ?_; refine Zm rfl rfl rfl rfl rfl ?_; refine hx_yes rfl rfl rfl ?_; refine h_move rfl rfl rfl rfl ?_; refine hx_yes rfl rfl rfl ?_; refine h_cmp rfl rfl rfl rfl rfl rfl ?_; refine Zq rfl rfl rfl rfl rfl rfl ?_; refine Zn rfl rfl rfl rfl rfl ?_; refine hc_ret ?_; refine hq_ret_then ?_)
      exact hq_ret1 (.inr rfl) rfl rfl ⟨rfl, rfl⟩ (fun _ h => h.emp)
    · (refine Zc rfl rfl rfl rfl rfl rfl rfl ?_; refine Zt ?_; refine hc_condDF rfl (by omega) ?_; refine hc_skip ?_; refine hq_then ?_; refine Zl rfl ?_; refine h_assign rfl rfl rfl rfl ?_; refine Zt ?_; refine hc_ret ?_)
      exact hq_ret1 (.inr rfl) rfl rfl ⟨rfl, rfl⟩ (fun _ h => h.emp)
end Go.Proofs.YtfolhmlldoepfaaGreatDoor
namespace Go.Proofs.YtfolhmlldoepfaaGreatDoor
open Go Go.Proofs Go.RowKit
set_option maxRecDepth 4000
theorem h_remI2 {P : Program} {n : Nat} {ds : List Deferred} {ops : Array Oper} {ev wk : Nat → Bool} {K : Env → (World → Prop) → Prop} {r : List Oper} {o : Oper} {k : Nat} {e : Env} {C : World → Prop} {t t2 : TypeId} {x y : Operand} {a b : Int} (ho : o.op = .binOp .rem t x y t2) (hx : e.op x = some (.int .i64 a)) (hy : e.op y = some (.int .i64 b)) (hb : b ≠ 0)
    {dd : Nat} (hdst : o.dst = some dd) (hd : okD n (some dd) = true) (h : HX P n ds ops ev wk K r (k + 1) ((dd, .int .i64 (a.tmod b)) :: e) C) : HX1 P n ds ops ev wk K o r k e C :=
  h_rem ho hx hy hb hdst hd h
theorem decQ_bad {bs : List Int} (h : openE bs mgQ ≠ 0) : decQ bs = (.z, [], openE bs mgQ) := if_pos h
theorem decP_bad {bs : List Int} (h : openE bs mgR ≠ 0) : decP bs = (.z, [], [], openE bs mgR) := if_pos h
theorem seal_byts {B : List Int} (h : Byts (sealed B)) : Byts B := fun x hx => h x (by unfold sealed; exact List.mem_append_left _ hx)
/-- A datagram that may be. -/
structure Dgr (bs : List Int) : Prop where
  sealed_ : ∃ B, bs = sealed B ∧ Byts B
  most : bs.length ≤ 1400
  least : 12 ≤ bs.length
theorem encReq_dgr {r : ReqV} {ds : List Int} (hd : ds.length = r.dv.len) (bd : Byts ds) (h : r.chk = 0) : Dgr (encReq r ds) := by
  obtain ⟨_, h2, _, h4⟩ := decQ_enc hd h
  obtain ⟨B, hB, _⟩ := encReq_sealed (ds := ds) h
  refine ⟨⟨B, hB, seal_byts ?_⟩, h2, h4⟩
  rw [← hB]
  exact encReq_byts bd
theorem encRep_dgr {r : RepV} {ds : List Int} {es : List EntV} (hd : ds.length = r.dv.len) (hl : es.length = r.lv.len) (bd : Byts ds) (h : r.chk es = 0) : Dgr (encRep r ds es) := by
  obtain ⟨_, h2, _, h4⟩ := decP_enc hd hl h
  obtain ⟨B, hB, _⟩ := encRep_sealed (ds := ds) h
  refine ⟨⟨B, hB, seal_byts ?_⟩, h2, h4⟩
  rw [← hB]
  exact encRep_byts bd
theorem Dgr.byts {bs : List Int} (h : Dgr bs) : Byts bs := by
  obtain ⟨B, rfl, hB⟩ := h.sealed_
  exact sealed_byts hB
theorem Dgr.one {bs : List Int} (h : Dgr bs) {i : Nat} {x b : Int} (mg : ByteArray) (hi : bs[i]? = some b) (hx : 0 ≤ x ∧ x ≤ 255) (hne : b ≠ x) : openE (bs.set i x) mg ≠ 0 := by
  obtain ⟨B, rfl, hB⟩ := h.sealed_
  obtain ⟨h1, h2⟩ := List.getElem?_eq_some_iff.1 hi
  exact one_byte mg hB h1 hx (by rw [h2]; exact hne)
set_option maxHeartbeats 8000000 in
theorem spoilt_reads {w : World} (hk : Known w) {v : Value} {bs : List Int} (hr : Rd byteE w v bs) (hg : Dgr bs) (at_ x : Int) (hx : 0 ≤ x ∧ x ≤ 255) :
    Calls Tryz.prog 30 [v, .int .i64 at_, .int .u8 x].toArray w (fun en w' => en = .returned (.bool true) ∧ But w w' nowhere) := by
  have hby := hg.byts
  have hn1 := hg.most
  have hn2 := hg.least
  have h0 := hr
  obtain ⟨a1, c1, rfl, l1, m1, k1⟩ := hr
  unfold maxLen at m1
  have ht1 : -(bs.length : Int) < at_.tmod bs.length ∧ at_.tmod bs.length < (bs.length : Int) := by
    have h1 := Int.tmod_lt_of_pos at_ (show (0 : Int) < (bs.length : Int) by omega)
    have h2 := Int.lt_tmod_of_pos at_ (show (0 : Int) < (bs.length : Int) by omega)
    exact ⟨h2, h1⟩
  obtain ⟨mm, hmm⟩ : ∃ m, at_.tmod bs.length = m := ⟨_, rfl⟩
  rw [hmm] at ht1
  obtain ⟨z, hz⟩ : ∃ z : Nat, (mm + bs.length) % bs.length = (z : Int) := ⟨((mm + bs.length) % bs.length).toNat, by
    have := Int.emod_nonneg (mm + bs.length) (show (bs.length : Int) ≠ 0 by omega)
    omega⟩
  have hzl : z < bs.length := by
    have := Int.emod_lt_of_pos (mm + bs.length) (show (0 : Int) < (bs.length : Int) by omega)
    omega
  obtain ⟨b, hb⟩ : ∃ b, bs[z]? = some b := ⟨_, List.getElem?_eq_getElem hzl⟩
  have e1 : bs[((z : Nat) : Int).toNat]? = some b := hb
  have hbr := hby b (List.mem_iff_getElem?.2 ⟨z, hb⟩)
  refine reads_of Tryz.func30 rfl rfl (Nat.le_of_ble_eq_true rfl) ?_
  (refine Zl rfl ?_; refine h_assign rfl rfl rfl rfl ?_; refine Zt ?_; refine Zl rfl ?_; refine h_move rfl rfl rfl rfl ?_; refine Zm rfl rfl rfl rfl rfl ?_; refine hx_plain rfl ?_; refine h_len_slice rfl rfl rfl UC.out rfl rfl rfl ?_; refine hx_plain rfl ?_)
  refine h_remI2 rfl rfl rfl (by omega) rfl rfl ?_
  rw [hmm]
  (refine Zm rfl rfl rfl rfl rfl ?_; refine hx_plain rfl ?_; refine h_len_slice rfl rfl rfl UC.out rfl rfl rfl ?_; refine hx_plain rfl ?_; refine h_arithI rfl rfl rfl rfl (by omega) rfl rfl ?_; refine Zm rfl rfl rfl rfl rfl ?_; refine hx_plain rfl ?_; refine h_len_slice rfl rfl rfl UC.out rfl rfl rfl ?_; refine hx_plain rfl ?_; refine h_remI rfl rfl rfl (by omega) rfl rfl ?_; refine Zn rfl rfl rfl rfl rfl ?_; refine Zl rfl ?_; refine h_move rfl rfl rfl rfl ?_; refine hx_plain rfl ?_)
  rw [hz]
  refine h_callW (post := fun u M => M = [RowV byteE 5 u bs]) rfl rfl rfl rfl rfl rfl rfl rfl EC.out (fun w' h => bytes_makes (h0.but h.but) (by omega)) ?_
  rintro u M rfl
  (refine Zn rfl rfl rfl rfl rfl ?_)
  refine hc_rowV .head (fun _ e => by rw [e] at hn2; exact absurd hn2 (by decide)) ?_
  rintro g cap rfl
  refine hc_know (fun _ h => h.row_le) ?_
  rintro ⟨hcp, _⟩
  refine hc_meet (Y := Int) (fun x' => [(1, .int .i64 (z : Int)), (2, .int .u8 x'), (7, .slice (some ⟨g, 0, none⟩) bs.length cap)]) (fun _ => [Row byteE 5 g cap bs]) (fun x' => (0 ≤ x' ∧ x' ≤ 255) ∧ b ≠ x') ?_ ?_
  · (refine Zl rfl ?_; refine h_move rfl rfl rfl rfl ?_; (iterate 2 (refine Zm rfl rfl rfl rfl rfl ?_)); refine hx_plain rfl ?_; refine h_rowAddr rfl rfl rfl UC.out IC.size (by omega) (by omega) rfl rfl ?_; refine hx_plain rfl ?_; refine h_rowLoad1 rfl .head rfl UC.out rfl (by with_reducible assumption) rfl rfl rfl ?_; refine Zc rfl rfl rfl rfl rfl rfl rfl ?_; refine Zt ?_; refine hc_condD rfl (fun hc => ?_) (fun hc => ?_); refine hc_lex ?_; refine Zm rfl rfl rfl rfl rfl ?_; refine hx_plain rfl ?_; refine h_arith rfl rfl rfl rfl rfl rfl ?_; refine Za rfl rfl rfl rfl rfl ?_; refine hx_nil ?_; rotate_left; refine hc_skip ?_; rotate_left)
    · refine hq_met (IntKind.u8.wrap (x + 1)) ⟨by rw [wrap8_eq]; omega, by rw [wrap8_eq]; omega⟩ (.cons rfl (.cons rfl (.cons rfl .nil))) (fun _ h => h)
    · exact hq_met x ⟨hx, fun e => hc (by omega)⟩ (.cons rfl (.cons rfl (.cons rfl .nil))) (fun _ h => h)
  rintro x' ⟨hx', hne⟩
  have hq := decQ_bad (hg.one mgQ hb hx' hne)
  have hp := decP_bad (hg.one mgR hb hx' hne)
  have hqn := hg.one mgQ hb hx' hne
  have hpn := hg.one mgR hb hx' hne
  have hsb : Byts (bs.set z x') := set_byts hby hx'
  have hsl : bs.length = (bs.set z x').length := (List.length_set ..).symm
  (refine Zl rfl ?_; refine h_move rfl rfl rfl rfl ?_; (iterate 2 (refine Zm rfl rfl rfl rfl rfl ?_)); refine hx_plain rfl ?_; refine h_rowAddr rfl rfl rfl UC.out IC.size (by omega) (by omega) rfl rfl ?_; refine hx_plain rfl ?_)
  refine h_rowStoreN (i := z) (z := x') rfl rfl rfl .head rfl rfl rfl IC.size e1 rfl rfl ?_
  rw [hsl]
  obtain ⟨cs, hcs⟩ : ∃ c, bs.set z x' = c := ⟨_, rfl⟩
  rw [show ((z : Nat) : Int).toNat = z from rfl, hcs]
  rw [hcs] at hq hp hqn hpn hsb
  obtain ⟨eq, heq⟩ : ∃ c, openE cs mgQ = c := ⟨_, rfl⟩
  obtain ⟨ep, hep⟩ : ∃ c, openE cs mgR = c := ⟨_, rfl⟩
  rw [heq] at hq hqn
  rw [hep] at hp hpn
  (refine Zt ?_)
  refine hc_st (C' := St w nowhere [RowV byteE 5 (.slice (some ⟨g, 0, none⟩) cs.length cap) cs]) (fun _ h => St.rowV_mk h) ?_
  (refine Zl rfl ?_; refine h_move rfl rfl rfl rfl ?_; refine hx_plain rfl ?_)
  refine h_callW rfl rfl rfl rfl rfl rfl rfl rfl EC.out (fun w' h => decQ_makes (hk.but h.but) (h.rdRowV .head) hsb) ?_
  rw [hq]
  rintro u M ⟨a3, c3, rfl, rfl⟩
  unfold ReqV.z
  dsimp only [ReqV.cs, SlV.v, List.length_nil]
  (refine Zm rfl rfl rfl rfl rfl ?_; (iterate 2 (refine hx_plain rfl ?_; refine h_extract rfl rfl rfl rfl rfl ?_)); refine hx_plain rfl ?_; (refine h_alloc rfl rfl IC.zero rfl rfl rfl (fun _ => ?_)); refine hx_plain rfl ?_; refine h_storeAll rfl rfl rfl rfl rfl rfl IC.size .head rfl rfl rfl (List.all_eq_true.1 rfl) ?_; refine Zn rfl rfl rfl rfl rfl ?_; refine Zl rfl ?_; refine h_move rfl rfl rfl rfl ?_; refine hx_plain rfl ?_)
  refine h_callW rfl rfl rfl rfl rfl rfl rfl rfl EC.out (fun w' h => decP_makes (hk.but h.but) (h.rdRowV (.tail (.tail .head))) hsb) ?_
  rw [hp]
  rintro u M ⟨a4, c4, a5, c5, rfl, rfl⟩
  unfold RepV.z
  dsimp only [RepV.cs, SlV.v, List.length_nil]
  (refine Zm rfl rfl rfl rfl rfl ?_; (iterate 2 (refine hx_plain rfl ?_; refine h_extract rfl rfl rfl rfl rfl ?_)); refine hx_plain rfl ?_; (refine h_alloc rfl rfl IC.zero rfl rfl rfl (fun _ => ?_)); refine hx_plain rfl ?_; refine h_storeAll rfl rfl rfl rfl rfl rfl IC.size .head rfl rfl rfl (List.all_eq_true.1 rfl) ?_; refine Zn rfl rfl rfl rfl rfl ?_; refine Zl rfl ?_; refine h_move rfl rfl rfl rfl ?_; refine hx_plain rfl ?_)
  refine h_callR rfl rfl rfl rfl rfl rfl EC.out ((lnum_spec eq).reads _) ?_
  (refine Zc rfl rfl rfl rfl rfl rfl rfl ?_; refine Zm rfl rfl rfl rfl rfl ?_; refine hx_gT rfl rfl rfl (by omega) ?_; refine hx_yes rfl rfl rfl ?_; refine h_move rfl rfl rfl rfl ?_; refine hx_yes rfl rfl rfl ?_)
  refine h_callR rfl rfl rfl rfl rfl rfl EC.out ((lnum_spec ep).reads _) ?_
  (refine hx_yes rfl rfl rfl ?_; refine h_cmp rfl rfl rfl rfl rfl rfl ?_; refine Zq rfl rfl rfl rfl rfl rfl ?_; refine Zn rfl rfl rfl rfl rfl ?_; refine hc_ret ?_)
  exact hq_ret1 (.inr rfl) rfl rfl ⟨congrArg Value.bool (by simp [hpn]), rfl⟩ (fun _ h => h.emp)
end Go.Proofs.YtfolhmlldoepfaaGreatDoor
namespace Go.Proofs.YtfolhmlldoepfaaGreatDoor
open Go Go.Proofs Go.RowKit
set_option maxRecDepth 4000
set_option maxHeartbeats 8000000 in
theorem one_law {w : World} (hk : Known w) (r : ReqV) (y : RepV) (at_ x : Int) (hx : 0 ≤ x ∧ x ≤ 255) {ds ps : List Int} {es : List EntV} (hd : Rd byteE w r.dv.v ds) (hp : Rd byteE w y.dv.v ps) (hl : Rd entE w y.lv.v es) (bd : Byts ds) (bp : Byts ps) :
    Calls Tryz.prog 5 [Value.agg r.cs, Value.agg y.cs, .int .i64 at_, .int .u8 x].toArray w (fun en w' => en = .returned (.bool true) ∧ But w w' nowhere) := by
  obtain ⟨r0, hr0⟩ : ∃ r0, r0 = r := ⟨_, rfl⟩
  obtain ⟨y0, hy0⟩ : ∃ y0, y0 = y := ⟨_, rfl⟩
  rw [← hr0] at hd
  rw [← hy0] at hp hl
  have hdl : ds.length = r0.dv.len := rd_lenS hd
  have hpl : ps.length = y0.dv.len := rd_lenS hp
  have hll : es.length = y0.lv.len := rd_lenS hl
  obtain ⟨client, seq, ack, epoch, op, id, id2, off, len, path, name, name2, ⟨da, dn, dc⟩⟩ := r
  obtain ⟨pclient, pseq, pepoch, pop, status, aid, akind, asize, achange, ⟨pa, pn, pc⟩, ⟨la, ln, lc⟩, more⟩ := y
  dsimp only [ReqV.cs, RepV.cs, SlV.v]
  have gq := encReq_dgr (r := r0) hdl bd
  have gp := encRep_dgr (r := y0) hpl hll bp
  have gq0 := encReq_dgr (r := plainQ) (ds := []) rfl nil_byts plainQ_chk
  have gp0 := encRep_dgr (r := refuP) (ds := []) (es := []) rfl rfl nil_byts refuP_chk
  refine reads_of Tryz.func5 rfl rfl (Nat.le_of_ble_eq_true rfl) ?_
  (refine Zl rfl ?_; (refine h_box rfl rfl rfl rfl rfl rfl (fun _ => ?_)); refine hx_plain rfl ?_; (refine h_box rfl rfl rfl rfl rfl rfl (fun _ => ?_)); refine Zn rfl rfl rfl rfl rfl ?_; refine Zl rfl ?_)
  refine h_callRd rfl rfl rfl rfl rfl rfl EC.out (fun w' h => head_reads (hk.but h.but)) ?_
  (refine Zn rfl rfl rfl rfl rfl ?_; refine hc_seq ?_; refine Zl rfl ?_; refine h_move rfl rfl rfl rfl ?_; refine hx_plain rfl ?_; refine h_not rfl rfl rfl rfl ?_; refine Zt ?_; refine hc_condF rfl ?_; refine hc_skip ?_; refine hq_then ?_; refine Zl rfl ?_)
  rename_i bq bp'
  refine h_loadP (cs' := #[.int .i64 client, .int .i64 seq, .int .i64 ack, .int .i64 epoch, .int .i64 op, .int .i64 id, .int .i64 id2, .int .i64 off, .int .i64 len, .string path, .string name, .string name2, .slice da dn dc]) rfl rfl UC.out rfl IC.size (.tail .head) rfl (by kernel_rfl) rfl rfl ?_
  (refine hx_plain rfl ?_)
  refine h_callW (post := EncP (encReq r0 ds) r0.chk) rfl rfl rfl rfl rfl rfl rfl rfl EC.out (fun w' h => by have := encQ_makes (hk.but h.but) r0 (hd.but h.but); rw [hr0] at this ⊢; exact this) ?_
  obtain ⟨eq, heq⟩ : ∃ l, encReq r0 ds = l := ⟨_, rfl⟩
  obtain ⟨ck, hck⟩ : ∃ c, r0.chk = c := ⟨_, rfl⟩
  rw [heq, hck]
  rw [heq, hck] at gq
  rintro u M ⟨a1, c1, rfl, rfl⟩
  (refine Zm rfl rfl rfl rfl rfl ?_; (iterate 2 (refine hx_plain rfl ?_; refine h_extract rfl rfl rfl rfl rfl ?_)); refine Za rfl rfl rfl rfl rfl ?_; refine Zn rfl rfl rfl rfl rfl ?_)
  refine hc_meet (Y := List Int × Option Addr × Nat) (fun z => [(10, .slice z.2.1 z.1.length z.2.2), (11, .int .i64 0), (2, .int .i64 at_), (3, .int .u8 x), (5, .pointer (some ⟨bp', 0, none⟩))]) (fun z => [RowV byteE 5 (.slice z.2.1 z.1.length z.2.2) z.1, Blk bp' (.cells #[.int .i64 pclient, .int .i64 pseq, .int .i64 pepoch, .int .i64 pop, .int .i64 status, .int .i64 aid, .int .i64 akind, .int .i64 asize, .int .i64 achange, .slice pa pn pc, .slice la ln lc, .bool more] 30 (0, 0))]) (fun z => Dgr z.1) ?_ ?_
  · (refine Zl rfl ?_; refine h_move rfl rfl rfl rfl ?_; refine hx_plain rfl ?_)
    refine h_callR rfl rfl rfl rfl rfl rfl EC.out ((lnum_spec ck).reads _) ?_
    by_cases hc0 : ck = 0
    · subst hc0
      (refine Zc rfl rfl rfl rfl rfl rfl rfl ?_; refine Zt ?_; refine hc_condF rfl ?_; refine hc_skip ?_)
      exact hq_met (eq, a1, c1) (gq rfl) (.cons rfl (.cons rfl (.cons rfl (.cons rfl (.cons rfl .nil))))) (fun _ h => h.sub (.cons .head (.cons .head .nil)))
    · (refine Zc rfl rfl rfl rfl rfl rfl rfl ?_; refine Zt ?_; refine hc_condDT rfl (by omega) ?_; refine hc_lex ?_; refine hx_plain rfl ?_)
      refine h_callR rfl rfl rfl rfl rfl rfl EC.out (plain_spec.reads _) ?_
      (refine hx_plain rfl ?_)
      refine h_callW rfl rfl rfl rfl rfl rfl rfl rfl EC.out (fun w' h => encQ_makes (hk.but h.but) plainQ (rd_nil byteE w')) ?_
      rw [plainQ_chk]
      rintro u M ⟨a2, c2, rfl, rfl⟩
      (refine Zm rfl rfl rfl rfl rfl ?_; (iterate 2 (refine hx_plain rfl ?_; refine h_extract rfl rfl rfl rfl rfl ?_)); (iterate 2 (refine Za rfl rfl rfl rfl rfl ?_)); refine hx_nil ?_)
      exact hq_met (encReq plainQ [], a2, c2) gq0 (.cons rfl (.cons rfl (.cons rfl (.cons rfl (.cons rfl .nil))))) (fun _ h => h.sub (.cons .head (.cons (.tail .head) .nil)))
  clear gq heq hck gq0
  rintro ⟨eq', a1', c1'⟩ gq
  dsimp only at gq ⊢
  (refine Zl rfl ?_)
  refine h_loadP (cs' := #[.int .i64 pclient, .int .i64 pseq, .int .i64 pepoch, .int .i64 pop, .int .i64 status, .int .i64 aid, .int .i64 akind, .int .i64 asize, .int .i64 achange, .slice pa pn pc, .slice la ln lc, .bool more]) rfl rfl UC.out rfl IC.size (.tail .head) rfl (by kernel_rfl) rfl rfl ?_
  (refine hx_plain rfl ?_)
  refine h_callW (post := EncP (encRep y0 ps es) (y0.chk es)) rfl rfl rfl rfl rfl rfl rfl rfl EC.out (fun w' h => by have := encP_makes (hk.but h.but) y0 (hp.but h.but) (hl.but h.but); rw [hy0] at this ⊢; exact this) ?_
  obtain ⟨ep, hep⟩ : ∃ l, encRep y0 ps es = l := ⟨_, rfl⟩
  obtain ⟨ck2, hck2⟩ : ∃ c, y0.chk es = c := ⟨_, rfl⟩
  rw [hep, hck2]
  rw [hep, hck2] at gp
  rintro u M ⟨a3, c3, rfl, rfl⟩
  (refine Zm rfl rfl rfl rfl rfl ?_; (iterate 2 (refine hx_plain rfl ?_; refine h_extract rfl rfl rfl rfl rfl ?_)); refine Za rfl rfl rfl rfl rfl ?_; refine Zn rfl rfl rfl rfl rfl ?_)
  refine hc_meet (Y := List Int × Option Addr × Nat) (fun z => [(10, .slice a1' eq'.length c1'), (12, .slice z.2.1 z.1.length z.2.2), (11, .int .i64 0), (13, .int .i64 0), (2, .int .i64 at_), (3, .int .u8 x)]) (fun z => [RowV byteE 5 (.slice z.2.1 z.1.length z.2.2) z.1, RowV byteE 5 (.slice a1' eq'.length c1') eq']) (fun z => Dgr z.1) ?_ ?_
  · (refine Zl rfl ?_; refine h_move rfl rfl rfl rfl ?_; refine hx_plain rfl ?_)
    refine h_callR rfl rfl rfl rfl rfl rfl EC.out ((lnum_spec ck2).reads _) ?_
    by_cases hc0 : ck2 = 0
    · subst hc0
      (refine Zc rfl rfl rfl rfl rfl rfl rfl ?_; refine Zt ?_; refine hc_condF rfl ?_; refine hc_skip ?_)
      exact hq_met (ep, a3, c3) (gp rfl) (.cons rfl (.cons rfl (.cons rfl (.cons rfl (.cons rfl (.cons rfl .nil)))))) (fun _ h => h.sub (.cons .head (.cons .head .nil)))
    · (refine Zc rfl rfl rfl rfl rfl rfl rfl ?_; refine Zt ?_; refine hc_condDT rfl (by omega) ?_; refine hc_lex ?_; refine hx_plain rfl ?_)
      refine h_callR rfl rfl rfl rfl rfl rfl EC.out (refusal_spec.reads _) ?_
      (refine hx_plain rfl ?_)
      refine h_callW rfl rfl rfl rfl rfl rfl rfl rfl EC.out (fun w' h => encP_makes (hk.but h.but) refuP (es := []) (rd_nil byteE w') (rd_nil entE w')) ?_
      rw [refuP_chk]
      rintro u M ⟨a4, c4, rfl, rfl⟩
      (refine Zm rfl rfl rfl rfl rfl ?_; (iterate 2 (refine hx_plain rfl ?_; refine h_extract rfl rfl rfl rfl rfl ?_)); (iterate 2 (refine Za rfl rfl rfl rfl rfl ?_)); refine hx_nil ?_)
      exact hq_met (encRep refuP [] [], a4, c4) gp0 (.cons rfl (.cons rfl (.cons rfl (.cons rfl (.cons rfl (.cons rfl .nil)))))) (fun _ h => h.sub (.cons .head (.cons (.tail .head) .nil)))
  clear gp hep hck2 gp0
  rintro ⟨ep', a2', c2'⟩ gp
  dsimp only at gp ⊢
  have nq := gq.least
  have np := gp.least
  (refine hc_seq ?_; refine Zl rfl ?_; refine h_move rfl rfl rfl rfl ?_; refine hx_plain rfl ?_)
  refine h_callR rfl rfl rfl rfl rfl rfl EC.out ((lnum_spec 0).reads _) ?_
  (refine Zc rfl rfl rfl rfl rfl rfl rfl ?_; refine Zm rfl rfl rfl rfl rfl ?_; refine hx_yes rfl rfl rfl ?_; refine h_move rfl rfl rfl rfl ?_; refine hx_yes rfl rfl rfl ?_)
  refine h_callR rfl rfl rfl rfl rfl rfl EC.out ((lnum_spec 0).reads _) ?_
  (refine hx_yes rfl rfl rfl ?_; refine h_cmp rfl rfl rfl rfl rfl rfl ?_; refine Zp rfl rfl rfl rfl rfl rfl ?_; refine Zm rfl rfl rfl rfl rfl ?_; refine hx_yes rfl rfl rfl ?_; refine h_move rfl rfl rfl rfl ?_; refine hx_yes rfl rfl rfl ?_; refine h_len_slice rfl rfl rfl UC.out rfl rfl rfl ?_; refine hx_yes rfl rfl rfl ?_; refine h_cmp rfl rfl rfl rfl rfl rfl ?_; refine Zp rfl rfl rfl rfl rfl rfl ?_; refine Zm rfl rfl rfl rfl rfl ?_; refine hx_gF rfl rfl rfl (by omega) ?_; refine hx_yes rfl rfl rfl ?_; refine h_move rfl rfl rfl rfl ?_; refine hx_yes rfl rfl rfl ?_; refine h_len_slice rfl rfl rfl UC.out rfl rfl rfl ?_; refine hx_yes rfl rfl rfl ?_; refine h_cmp rfl rfl rfl rfl rfl rfl ?_; refine Zp rfl rfl rfl rfl rfl rfl ?_; refine Zt ?_; refine hc_condDF rfl (by omega) ?_; refine hc_skip ?_; refine hq_then ?_; refine Zl rfl ?_; refine h_move rfl rfl rfl rfl ?_; (iterate 2 (refine Zm rfl rfl rfl rfl rfl ?_)); refine hx_plain rfl ?_)
  refine h_callRd rfl rfl rfl rfl rfl rfl EC.out (fun w' h => spoilt_reads (hk.but h.but) (h.rdRowV (.tail .head)) gq at_ x hx) ?_
  (refine Zm rfl rfl rfl rfl rfl ?_; (iterate 3 (refine hx_yes rfl rfl rfl ?_; refine h_move rfl rfl rfl rfl ?_)); refine hx_yes rfl rfl rfl ?_)
  refine h_callRd rfl rfl rfl rfl rfl rfl EC.out (fun w' h => spoilt_reads (hk.but h.but) (h.rdRowV .head) gp at_ x hx) ?_
  (refine Zq rfl rfl rfl rfl rfl rfl ?_; refine Zn rfl rfl rfl rfl rfl ?_; refine hc_ret ?_)
  exact hq_ret1 (.inr rfl) rfl rfl ⟨rfl, rfl⟩ (fun _ h => h.emp)
theorem same_encQ {r q : ReqV} {ds dq : List Int} (hd : ds.length = r.dv.len) (hdq : dq.length = q.dv.len) (hr : r.chk = 0) (hq : q.chk = 0) : decide (encReq r ds = encReq q dq) = sameQ r q ds dq := by
  unfold sameQ
  rw [decide_eq_decide]
  constructor
  · intro e
    have h1 := (decQ_enc hd hr).1
    have h2 := (decQ_enc hdq hq).1
    rw [e, h2] at h1
    injection h1 with h1 h3
    injection h3 with h3 _
    unfold ReqV.bare at h1
    injection h1 with h1 h2 h4 h5 h6 h7 h8 h9 h10 h11 h12 h13
    exact ⟨h3.symm, ⟨h1.symm, h2.symm, h4.symm, h5.symm, h6.symm⟩, h7.symm, h8.symm, h9.symm, h10.symm, h11.symm, h12.symm, h13.symm⟩
  · rintro ⟨rfl, ⟨h1, h2, h3, h4, h5⟩, h6, h7, h8, h9, h10, h11, h12⟩
    have : q = { r with dv := q.dv } := by
      cases r; cases q
      simp_all
    rw [this]
    exact (encReq_dv r q.dv (hdq.symm.trans hd)).symm
theorem same_encP {r q : RepV} {ds dq : List Int} {es eq : List EntV} (hd : ds.length = r.dv.len) (hdq : dq.length = q.dv.len) (hl : es.length = r.lv.len) (hlq : eq.length = q.lv.len) (hr : r.chk es = 0) (hq : q.chk eq = 0) : decide (encRep r ds es = encRep q dq eq) = sameP r q ds dq es eq := by
  unfold sameP
  rw [decide_eq_decide]
  constructor
  · intro e
    have h1 := (decP_enc hd hl hr).1
    have h2 := (decP_enc hdq hlq hq).1
    rw [e, h2] at h1
    injection h1 with h1 h3
    injection h3 with h3 h4
    injection h4 with h4 _
    unfold RepV.bare at h1
    injection h1 with h1 h2 h5 h6 h7 h8 h9 h10 h11 h12 h13 h14
    subst_vars
    simp_all
  · intro h
    obtain ⟨rfl, rfl, h⟩ := h
    have : q = { r with dv := q.dv, lv := q.lv } := by
      cases r; cases q
      simp_all
    rw [this]
    exact (encRep_dv r q.dv q.lv (hdq.symm.trans hd) (hlq.symm.trans hl)).symm
set_option maxHeartbeats 8000000 in
theorem unlike_law {w : World} (hk : Known w) (r q : ReqV) (y p : RepV) {ds dq ps pq : List Int} {es eqs : List EntV} (hd : Rd byteE w r.dv.v ds) (hdq : Rd byteE w q.dv.v dq) (hp : Rd byteE w y.dv.v ps) (hl : Rd entE w y.lv.v es) (hpq : Rd byteE w p.dv.v pq) (hlq : Rd entE w p.lv.v eqs) :
    Calls Tryz.prog 7 [Value.agg r.cs, Value.agg q.cs, Value.agg y.cs, Value.agg p.cs].toArray w (fun en w' => en = .returned (.bool true) ∧ But w w' nowhere) := by
  obtain ⟨r0, hr0⟩ : ∃ r0, r0 = r := ⟨_, rfl⟩
  obtain ⟨q0, hq0⟩ : ∃ q0, q0 = q := ⟨_, rfl⟩
  obtain ⟨y0, hy0⟩ : ∃ y0, y0 = y := ⟨_, rfl⟩
  obtain ⟨p0, hp0⟩ : ∃ p0, p0 = p := ⟨_, rfl⟩
  rw [← hr0] at hd
  rw [← hq0] at hdq
  rw [← hy0] at hp hl
  rw [← hp0] at hpq hlq
  have same1 := same_encQ (r := r0) (q := q0) (rd_lenS hd) (rd_lenS hdq)
  have same2 := same_encP (r := y0) (q := p0) (rd_lenS hp) (rd_lenS hpq) (rd_lenS hl) (rd_lenS hlq)
  obtain ⟨client, seq, ack, epoch, op, id, id2, off, len, path, name, name2, ⟨da, dn, dc⟩⟩ := r
  obtain ⟨client', seq', ack', epoch', op', id', id2', off', len', path', name', name2', ⟨da', dn', dc'⟩⟩ := q
  obtain ⟨pclient, pseq, pepoch, pop, status, aid, akind, asize, achange, ⟨pa, pn, pc⟩, ⟨la, ln, lc⟩, more⟩ := y
  obtain ⟨pclient', pseq', pepoch', pop', status', aid', akind', asize', achange', ⟨pa', pn', pc'⟩, ⟨la', ln', lc'⟩, more'⟩ := p
  dsimp only [ReqV.cs, RepV.cs, SlV.v]
  refine reads_of Tryz.func7 rfl rfl (Nat.le_of_ble_eq_true rfl) ?_
  (refine Zl rfl ?_; (iterate 3 ((refine h_box rfl rfl rfl rfl rfl rfl (fun _ => ?_)); refine hx_plain rfl ?_)); (refine h_box rfl rfl rfl rfl rfl rfl (fun _ => ?_)); refine Zn rfl rfl rfl rfl rfl ?_; refine Zl rfl ?_)
  refine h_callRd rfl rfl rfl rfl rfl rfl EC.out (fun w' h => head_reads (hk.but h.but)) ?_
  (refine Zn rfl rfl rfl rfl rfl ?_; refine hc_seq ?_; refine Zl rfl ?_; refine h_move rfl rfl rfl rfl ?_; refine hx_plain rfl ?_; refine h_not rfl rfl rfl rfl ?_; refine Zt ?_; refine hc_condF rfl ?_; refine hc_skip ?_; refine hq_then ?_; refine Zl rfl ?_)
  rename_i br bq by' bp'
  refine h_loadP (cs' := #[.int .i64 client, .int .i64 seq, .int .i64 ack, .int .i64 epoch, .int .i64 op, .int .i64 id, .int .i64 id2, .int .i64 off, .int .i64 len, .string path, .string name, .string name2, .slice da dn dc]) rfl rfl UC.out rfl IC.size (.tail (.tail (.tail .head))) rfl (by kernel_rfl) rfl rfl ?_
  (refine hx_plain rfl ?_)
  refine h_callW (post := EncP (encReq r0 ds) r0.chk) rfl rfl rfl rfl rfl rfl rfl rfl EC.out (fun w' h => by have := encQ_makes (hk.but h.but) r0 (hd.but h.but); rw [hr0] at this ⊢; exact this) ?_
  obtain ⟨e1, he1⟩ : ∃ l, encReq r0 ds = l := ⟨_, rfl⟩
  obtain ⟨ck1, hck1⟩ : ∃ c, r0.chk = c := ⟨_, rfl⟩
  rw [he1, hck1]
  rw [he1, hck1] at same1
  rintro u M ⟨a1, c1, rfl, rfl⟩
  (refine Zm rfl rfl rfl rfl rfl ?_; (iterate 2 (refine hx_plain rfl ?_; refine h_extract rfl rfl rfl rfl rfl ?_)); refine Za rfl rfl rfl rfl rfl ?_; refine Zn rfl rfl rfl rfl rfl ?_; refine Zl rfl ?_)
  refine h_loadP (cs' := #[.int .i64 client', .int .i64 seq', .int .i64 ack', .int .i64 epoch', .int .i64 op', .int .i64 id', .int .i64 id2', .int .i64 off', .int .i64 len', .string path', .string name', .string name2', .slice da' dn' dc']) rfl rfl UC.out rfl IC.size (.tail (.tail (.tail .head))) rfl (by kernel_rfl) rfl rfl ?_
  (refine hx_plain rfl ?_)
  refine h_callW (post := EncP (encReq q0 dq) q0.chk) rfl rfl rfl rfl rfl rfl rfl rfl EC.out (fun w' h => by have := encQ_makes (hk.but h.but) q0 (hdq.but h.but); rw [hq0] at this ⊢; exact this) ?_
  obtain ⟨e2, he2⟩ : ∃ l, encReq q0 dq = l := ⟨_, rfl⟩
  obtain ⟨ck2, hck2⟩ : ∃ c, q0.chk = c := ⟨_, rfl⟩
  rw [he2, hck2]
  rw [he2, hck2] at same1
  rintro u M ⟨a2, c2, rfl, rfl⟩
  (refine Zm rfl rfl rfl rfl rfl ?_; (iterate 2 (refine hx_plain rfl ?_; refine h_extract rfl rfl rfl rfl rfl ?_)); refine Za rfl rfl rfl rfl rfl ?_; refine Zn rfl rfl rfl rfl rfl ?_)
  refine hc_meet (Y := Unit) (fun _ => [(6, .pointer (some ⟨by', 0, none⟩)), (7, .pointer (some ⟨bp', 0, none⟩))]) (fun _ => [Blk by' (.cells #[.int .i64 pclient, .int .i64 pseq, .int .i64 pepoch, .int .i64 pop, .int .i64 status, .int .i64 aid, .int .i64 akind, .int .i64 asize, .int .i64 achange, .slice pa pn pc, .slice la ln lc, .bool more] 30 (0, 0)), Blk bp' (.cells #[.int .i64 pclient', .int .i64 pseq', .int .i64 pepoch', .int .i64 pop', .int .i64 status', .int .i64 aid', .int .i64 akind', .int .i64 asize', .int .i64 achange', .slice pa' pn' pc', .slice la' ln' lc', .bool more'] 30 (0, 0))]) (fun _ => True) ?_ ?_
  · (refine Zl rfl ?_; refine h_move rfl rfl rfl rfl ?_; refine hx_plain rfl ?_)
    refine h_callR rfl rfl rfl rfl rfl rfl EC.out ((lnum_spec ck1).reads _) ?_
    by_cases h1 : ck1 = 0
    case neg =>
      (refine Zc rfl rfl rfl rfl rfl rfl rfl ?_; refine Zm rfl rfl rfl rfl rfl ?_; refine hx_gF rfl rfl rfl (by omega) ?_; (iterate 3 (refine hx_skip rfl rfl rfl rfl rfl rfl ?_)); refine Zp rfl rfl rfl rfl rfl rfl ?_; refine Zt ?_; refine hc_condF rfl ?_; refine hc_skip ?_)
      exact hq_met () trivial (.cons rfl (.cons rfl .nil)) (fun _ h => by (refine St.sub ?_ h; refine .cons (.tail (.tail (.tail .head))) ?_; (with_reducible refine .cons (.tail (.tail .head)) ?_); exact .nil))
    subst h1
    (refine Zc rfl rfl rfl rfl rfl rfl rfl ?_; refine Zm rfl rfl rfl rfl rfl ?_; refine hx_yes rfl rfl rfl ?_; refine h_move rfl rfl rfl rfl ?_; refine hx_yes rfl rfl rfl ?_)
    refine h_callR rfl rfl rfl rfl rfl rfl EC.out ((lnum_spec ck2).reads _) ?_
    by_cases h2 : ck2 = 0
    case neg =>
      (refine hx_yes rfl rfl rfl ?_; refine h_cmp rfl rfl rfl rfl rfl rfl ?_; refine Zq rfl rfl rfl rfl rfl rfl ?_; refine Zt ?_; refine hc_condDF rfl (by omega) ?_; refine hc_skip ?_)
      exact hq_met () trivial (.cons rfl (.cons rfl .nil)) (fun _ h => by (refine St.sub ?_ h; refine .cons (.tail (.tail (.tail .head))) ?_; (with_reducible refine .cons (.tail (.tail .head)) ?_); exact .nil))
    subst h2
    have hs := same1 rfl rfl
    (refine hx_yes rfl rfl rfl ?_; refine h_cmp rfl rfl rfl rfl rfl rfl ?_; refine Zq rfl rfl rfl rfl rfl rfl ?_; refine Zt ?_; refine hc_condT rfl ?_; refine Zl rfl ?_; refine h_move rfl rfl rfl rfl ?_; refine Zm rfl rfl rfl rfl rfl ?_; refine hx_plain rfl ?_)
    refine h_callRd rfl rfl rfl rfl rfl rfl EC.out (fun w' h => sameBytes (h.rdRowV (.tail .head)) (h.rdRowV .head)) ?_
    rw [hs]
    (refine Zn rfl rfl rfl rfl rfl ?_; refine Zl rfl ?_)
    refine h_loadP (cs' := #[.int .i64 client, .int .i64 seq, .int .i64 ack, .int .i64 epoch, .int .i64 op, .int .i64 id, .int .i64 id2, .int .i64 off, .int .i64 len, .string path, .string name, .string name2, .slice da dn dc]) rfl rfl UC.out rfl IC.size (.tail (.tail (.tail (.tail (.tail .head))))) rfl (by kernel_rfl) rfl rfl ?_
    (refine hx_plain rfl ?_)
    refine h_loadP (cs' := #[.int .i64 client', .int .i64 seq', .int .i64 ack', .int .i64 epoch', .int .i64 op', .int .i64 id', .int .i64 id2', .int .i64 off', .int .i64 len', .string path', .string name', .string name2', .slice da' dn' dc']) rfl rfl UC.out rfl IC.size (.tail (.tail (.tail (.tail .head)))) rfl (by kernel_rfl) rfl rfl ?_
    (refine hx_plain rfl ?_)
    refine h_callRd (v := .bool (sameQ r0 q0 ds dq)) rfl rfl rfl rfl rfl rfl EC.out (fun w' h => by have := sameRequest (hd.but h.but) (hdq.but h.but); rw [hr0, hq0] at this ⊢; exact this) ?_
    obtain ⟨b, hb⟩ : ∃ b, sameQ r0 q0 ds dq = b := ⟨_, rfl⟩
    rw [hb]
    cases b
    ·
      (refine Zn rfl rfl rfl rfl rfl ?_; refine Zl rfl ?_; refine h_move rfl rfl rfl rfl ?_; refine Zm rfl rfl rfl rfl rfl ?_; refine hx_plain rfl ?_; refine h_cmpB rfl rfl rfl UC.out rfl rfl rfl ?_; refine Zt ?_; refine hc_condF rfl ?_; refine hc_skip ?_)
      exact hq_met () trivial (.cons rfl (.cons rfl .nil)) (fun _ h => by (refine St.sub ?_ h; refine .cons (.tail (.tail (.tail .head))) ?_; (with_reducible refine .cons (.tail (.tail .head)) ?_); exact .nil))
    ·
      (refine Zn rfl rfl rfl rfl rfl ?_; refine Zl rfl ?_; refine h_move rfl rfl rfl rfl ?_; refine Zm rfl rfl rfl rfl rfl ?_; refine hx_plain rfl ?_; refine h_cmpB rfl rfl rfl UC.out rfl rfl rfl ?_; refine Zt ?_; refine hc_condF rfl ?_; refine hc_skip ?_)
      exact hq_met () trivial (.cons rfl (.cons rfl .nil)) (fun _ h => by (refine St.sub ?_ h; refine .cons (.tail (.tail (.tail .head))) ?_; (with_reducible refine .cons (.tail (.tail .head)) ?_); exact .nil))
  clear same1 he1 he2 hck1 hck2
  rintro ⟨⟩ _
  (refine Zl rfl ?_)
  refine h_loadP (cs' := #[.int .i64 pclient, .int .i64 pseq, .int .i64 pepoch, .int .i64 pop, .int .i64 status, .int .i64 aid, .int .i64 akind, .int .i64 asize, .int .i64 achange, .slice pa pn pc, .slice la ln lc, .bool more]) rfl rfl UC.out rfl IC.size .head rfl (by kernel_rfl) rfl rfl ?_
  (refine hx_plain rfl ?_)
  refine h_callW (post := EncP (encRep y0 ps es) (y0.chk es)) rfl rfl rfl rfl rfl rfl rfl rfl EC.out (fun w' h => by have := encP_makes (hk.but h.but) y0 (hp.but h.but) (hl.but h.but); rw [hy0] at this ⊢; exact this) ?_
  obtain ⟨e3, he3⟩ : ∃ l, encRep y0 ps es = l := ⟨_, rfl⟩
  obtain ⟨ck3, hck3⟩ : ∃ c, y0.chk es = c := ⟨_, rfl⟩
  rw [he3, hck3]
  rw [he3, hck3] at same2
  rintro u M ⟨a3, c3, rfl, rfl⟩
  (refine Zm rfl rfl rfl rfl rfl ?_; (iterate 2 (refine hx_plain rfl ?_; refine h_extract rfl rfl rfl rfl rfl ?_)); refine Za rfl rfl rfl rfl rfl ?_; refine Zn rfl rfl rfl rfl rfl ?_; refine Zl rfl ?_)
  refine h_loadP (cs' := #[.int .i64 pclient', .int .i64 pseq', .int .i64 pepoch', .int .i64 pop', .int .i64 status', .int .i64 aid', .int .i64 akind', .int .i64 asize', .int .i64 achange', .slice pa' pn' pc', .slice la' ln' lc', .bool more']) rfl rfl UC.out rfl IC.size (.tail (.tail .head)) rfl (by kernel_rfl) rfl rfl ?_
  (refine hx_plain rfl ?_)
  refine h_callW (post := EncP (encRep p0 pq eqs) (p0.chk eqs)) rfl rfl rfl rfl rfl rfl rfl rfl EC.out (fun w' h => by have := encP_makes (hk.but h.but) p0 (hpq.but h.but) (hlq.but h.but); rw [hp0] at this ⊢; exact this) ?_
  obtain ⟨e4, he4⟩ : ∃ l, encRep p0 pq eqs = l := ⟨_, rfl⟩
  obtain ⟨ck4, hck4⟩ : ∃ c, p0.chk eqs = c := ⟨_, rfl⟩
  rw [he4, hck4]
  rw [he4, hck4] at same2
  rintro u M ⟨a4, c4, rfl, rfl⟩
  (refine Zm rfl rfl rfl rfl rfl ?_; (iterate 2 (refine hx_plain rfl ?_; refine h_extract rfl rfl rfl rfl rfl ?_)); refine Za rfl rfl rfl rfl rfl ?_; refine Zn rfl rfl rfl rfl rfl ?_; refine hc_seq ?_; refine Zl rfl ?_; refine h_move rfl rfl rfl rfl ?_; refine hx_plain rfl ?_)
  refine h_callR rfl rfl rfl rfl rfl rfl EC.out ((lnum_spec ck3).reads _) ?_
  by_cases h1 : ck3 = 0
  case neg =>
    (refine Zc rfl rfl rfl rfl rfl rfl rfl ?_; refine Zm rfl rfl rfl rfl rfl ?_; refine hx_gT rfl rfl rfl (by omega) ?_; (iterate 3 (refine hx_skip rfl rfl rfl rfl rfl rfl ?_)); refine Zq rfl rfl rfl rfl rfl rfl ?_; refine Zt ?_; refine hc_condT rfl ?_; refine Zl rfl ?_; refine h_assign rfl rfl rfl rfl ?_; refine Zt ?_; refine hc_ret ?_; refine hq_ret_then ?_)
    exact hq_ret1 (.inr rfl) rfl rfl ⟨rfl, rfl⟩ (fun _ h => h.emp)
  subst h1
  (refine Zc rfl rfl rfl rfl rfl rfl rfl ?_; refine Zm rfl rfl rfl rfl rfl ?_; refine hx_yes rfl rfl rfl ?_; refine h_move rfl rfl rfl rfl ?_; refine hx_yes rfl rfl rfl ?_)
  refine h_callR rfl rfl rfl rfl rfl rfl EC.out ((lnum_spec ck4).reads _) ?_
  by_cases h2 : ck4 = 0
  case neg =>
    (refine hx_yes rfl rfl rfl ?_; refine h_cmp rfl rfl rfl rfl rfl rfl ?_; refine Zp rfl rfl rfl rfl rfl rfl ?_; refine Zt ?_; refine hc_condDT rfl (by omega) ?_; refine Zl rfl ?_; refine h_assign rfl rfl rfl rfl ?_; refine Zt ?_; refine hc_ret ?_; refine hq_ret_then ?_)
    exact hq_ret1 (.inr rfl) rfl rfl ⟨rfl, rfl⟩ (fun _ h => h.emp)
  subst h2
  have hs := same2 rfl rfl
  (refine hx_yes rfl rfl rfl ?_; refine h_cmp rfl rfl rfl rfl rfl rfl ?_; refine Zp rfl rfl rfl rfl rfl rfl ?_; refine Zt ?_; refine hc_condF rfl ?_; refine hc_skip ?_; refine hq_then ?_; refine Zl rfl ?_; refine h_move rfl rfl rfl rfl ?_; refine Zm rfl rfl rfl rfl rfl ?_; refine hx_plain rfl ?_)
  refine h_callRd rfl rfl rfl rfl rfl rfl EC.out (fun w' h => sameBytes (h.rdRowV (.tail .head)) (h.rdRowV .head)) ?_
  rw [hs]
  (refine Zn rfl rfl rfl rfl rfl ?_; refine Zl rfl ?_)
  refine h_loadP (cs' := #[.int .i64 pclient, .int .i64 pseq, .int .i64 pepoch, .int .i64 pop, .int .i64 status, .int .i64 aid, .int .i64 akind, .int .i64 asize, .int .i64 achange, .slice pa pn pc, .slice la ln lc, .bool more]) rfl rfl UC.out rfl IC.size (.tail (.tail .head)) rfl (by kernel_rfl) rfl rfl ?_
  (refine hx_plain rfl ?_)
  refine h_loadP (cs' := #[.int .i64 pclient', .int .i64 pseq', .int .i64 pepoch', .int .i64 pop', .int .i64 status', .int .i64 aid', .int .i64 akind', .int .i64 asize', .int .i64 achange', .slice pa' pn' pc', .slice la' ln' lc', .bool more']) rfl rfl UC.out rfl IC.size (.tail (.tail (.tail .head))) rfl (by kernel_rfl) rfl rfl ?_
  (refine hx_plain rfl ?_)
  refine h_callRd (v := .bool (sameP y0 p0 ps pq es eqs)) rfl rfl rfl rfl rfl rfl EC.out (fun w' h => by have := sameReply (hp.but h.but) (hpq.but h.but) (hl.but h.but) (hlq.but h.but); rw [hy0, hp0] at this ⊢; exact this) ?_
  obtain ⟨b, hb⟩ : ∃ b, sameP y0 p0 ps pq es eqs = b := ⟨_, rfl⟩
  rw [hb]
  cases b
  ·
    (refine Zn rfl rfl rfl rfl rfl ?_; refine Zl rfl ?_; refine h_move rfl rfl rfl rfl ?_; refine Zm rfl rfl rfl rfl rfl ?_; refine hx_plain rfl ?_; refine h_cmpB rfl rfl rfl UC.out rfl rfl rfl ?_; refine Zn rfl rfl rfl rfl rfl ?_; refine hc_ret ?_)
    exact hq_ret1 (.inr rfl) rfl rfl ⟨rfl, rfl⟩ (fun _ h => h.emp)
  ·
    (refine Zn rfl rfl rfl rfl rfl ?_; refine Zl rfl ?_; refine h_move rfl rfl rfl rfl ?_; refine Zm rfl rfl rfl rfl rfl ?_; refine hx_plain rfl ?_; refine h_cmpB rfl rfl rfl UC.out rfl rfl rfl ?_; refine Zn rfl rfl rfl rfl rfl ?_; refine hc_ret ?_)
    exact hq_ret1 (.inr rfl) rfl rfl ⟨rfl, rfl⟩ (fun _ h => h.emp)
end Go.Proofs.YtfolhmlldoepfaaGreatDoor
namespace Go.Proofs.YtfolhmlldoepfaaGreatDoor
open Go Go.Proofs Go.ChangeShapes Go.WideShapes Go.ChangeAt Go.RowKit
set_option maxRecDepth 100000 in
theorem msgUnlike_contract (H : Type) (enc : TypeId × Value → H) (W : World) (base : Nat) (args : Array Value) (ds gs : List (DataW H)) (before : List MemPlace)
    (hval0 : ∀ (j : Nat) t v, Tryz.f7.params[j]? = some t → args[j]? = some v → Value.okWide Tryz.prog W .any base t v)
    (hW : DataW.Whole enc Tryz.prog Tryz.f7.params.toList Rows.msgUnlikeSpec.vars false W args.toList ds gs before)
    (hsz0 : (DataW.weightsEach Tryz.prog (Tryz.f7.params.toList ++ Rows.msgUnlikeSpec.plain.varTypes Tryz.prog) (ds ++ gs)).all (· ≤ reachBytes) = true) (hL : laidMetH Tryz.prog lst W) :
    Calls Tryz.prog 7 args W fun e W' => ∃ v, e = .returned v ∧ Rows.msgUnlikeSpec.post enc Tryz.prog Tryz.f7 false true false false W args v W' := by
  have hval : ∀ (j : Nat) t v, Tryz.f7.params[j]? = some t → args[j]? = some v → Value.okWide Tryz.prog W .any base t v := hval0
  have hsz := hsz0
  have hW' := hW
  obtain ⟨p, q, hA0, hV, rfl, hfz, hnd⟩ := hW
  have hA : DataW.TrodAll enc Tryz.prog W 0 (fun _ => true) true Tryz.f7.params.toList args.toList ds p := hA0
  rw [Tryz.params7] at hA hval hsz
  obtain ⟨v0, vs0, d0, ds0, p0, q0, hargs, rfl, rfl, h0, r0⟩ := trodAll_cons hA
  obtain ⟨v1, vs1, d1, ds1, p1, q1, rfl, rfl, rfl, h1, r1⟩ := trodAll_cons r0
  obtain ⟨v2, vs2, d2, ds2, p2, q2, rfl, rfl, rfl, h2, r2⟩ := trodAll_cons r1
  obtain ⟨v3, vs3, d3, ds3, p3, q3, rfl, rfl, rfl, h3, r3⟩ := trodAll_cons r2
  obtain ⟨rfl, rfl, rfl⟩ := trodAll_nil r3
  obtain rfl : args = #[v0, v1, v2, v3] := by cases args; simp_all
  obtain ⟨rfl, rfl⟩ := trodVars_none hV
  have k0 := h0
  have lt0 : ∀ x ∈ p0, x.block < W.heap.size := by obtain ⟨m, hm⟩ := k0; exact DataW.trod_lt m _ _ _ hm
  obtain ⟨s0, a0, rfl, rd0, by0, lp0, ln0⟩ := arg_req (hval 0 24 v0 rfl rfl) h0
  have k1 := h1
  have lt1 : ∀ x ∈ p1, x.block < W.heap.size := by obtain ⟨m, hm⟩ := k1; exact DataW.trod_lt m _ _ _ hm
  obtain ⟨s1, a1, rfl, rd1, by1, lp1, ln1⟩ := arg_req (hval 1 24 v1 rfl rfl) h1
  have k2 := h2
  have lt2 : ∀ x ∈ p2, x.block < W.heap.size := by obtain ⟨m, hm⟩ := k2; exact DataW.trod_lt m _ _ _ hm
  obtain ⟨s2, a2, e2, rfl, rd2, by2, re2, ln2, le2⟩ := arg_rep (hval 2 30 v2 rfl rfl) h2
  have k3 := h3
  have lt3 : ∀ x ∈ p3, x.block < W.heap.size := by obtain ⟨m, hm⟩ := k3; exact DataW.trod_lt m _ _ _ hm
  obtain ⟨s3, a3, e3, rfl, rd3, by3, re3, ln3, le3⟩ := arg_rep (hval 3 30 v3 rfl rfl) h3
  clear hA0 hval0 hsz0
  have hw := of_laid hL
  refine (unlike_law hw s0 s1 s2 s3 rd0 rd1 rd2 re2 rd3 re3).mono fun e W' ⟨he, hbut⟩ => ?_
  subst he
  have bel := hbut.below
  exact ⟨_, rfl, _, _, _, [], _, [], hW', trodAll_mk1 (shut_bool Tryz.underlying4 _), (trodAll_cons_mk (Below.trod laidOut (by kernel_rfl) (of_decide_eq_true (by kernel_rfl)) k0 bel lt0) (trodAll_cons_mk (Below.trod laidOut (by kernel_rfl) (of_decide_eq_true (by kernel_rfl)) k1 bel lt1) (trodAll_cons_mk (Below.trod laidOut (by kernel_rfl) (of_decide_eq_true (by kernel_rfl)) k2 bel lt2) (trodAll_cons_mk (Below.trod laidOut (by kernel_rfl) (of_decide_eq_true (by kernel_rfl)) k3 bel lt3) trodAll_mk0)))), rfl, bel.frame _, fun h => by cases h⟩
theorem msgUnlike_reads (os : Os) {H : Type} (enc : TypeId × Value → H) : ∃ places, DataW.whole enc Tryz.prog ((World.doorLaid Tryz.prog 400 os).forCall (fun _ _ => 0) ⟨#[], #[.agg #[.int .i64 0, .int .i64 0, .int .i64 0, .int .i64 0, .int .i64 0, .int .i64 0, .int .i64 0, .int .i64 0, .int .i64 0, .string ByteArray.empty, .string ByteArray.empty, .string ByteArray.empty, .slice none 0 0], .agg #[.int .i64 0, .int .i64 0, .int .i64 0, .int .i64 0, .int .i64 0, .int .i64 0, .int .i64 0, .int .i64 0, .int .i64 0, .string ByteArray.empty, .string ByteArray.empty, .string ByteArray.empty, .slice none 0 0], .agg #[.int .i64 0, .int .i64 0, .int .i64 0, .int .i64 0, .int .i64 0, .int .i64 0, .int .i64 0, .int .i64 0, .int .i64 0, .slice none 0 0, .slice none 0 0, .bool false], .agg #[.int .i64 0, .int .i64 0, .int .i64 0, .int .i64 0, .int .i64 0, .int .i64 0, .int .i64 0, .int .i64 0, .int .i64 0, .slice none 0 0, .slice none 0 0, .bool false]], []⟩).memory Tryz.f7.params.toList Rows.msgUnlikeSpec.vars false #[.agg #[.int .i64 0, .int .i64 0, .int .i64 0, .int .i64 0, .int .i64 0, .int .i64 0, .int .i64 0, .int .i64 0, .int .i64 0, .string ByteArray.empty, .string ByteArray.empty, .string ByteArray.empty, .slice none 0 0], .agg #[.int .i64 0, .int .i64 0, .int .i64 0, .int .i64 0, .int .i64 0, .int .i64 0, .int .i64 0, .int .i64 0, .int .i64 0, .string ByteArray.empty, .string ByteArray.empty, .string ByteArray.empty, .slice none 0 0], .agg #[.int .i64 0, .int .i64 0, .int .i64 0, .int .i64 0, .int .i64 0, .int .i64 0, .int .i64 0, .int .i64 0, .int .i64 0, .slice none 0 0, .slice none 0 0, .bool false], .agg #[.int .i64 0, .int .i64 0, .int .i64 0, .int .i64 0, .int .i64 0, .int .i64 0, .int .i64 0, .int .i64 0, .int .i64 0, .slice none 0 0, .slice none 0 0, .bool false]].toList 8 = some ([.agg [.lit (.int .i64 0), .lit (.int .i64 0), .lit (.int .i64 0), .lit (.int .i64 0), .lit (.int .i64 0), .lit (.int .i64 0), .lit (.int .i64 0), .lit (.int .i64 0), .lit (.int .i64 0), .lit (.string []), .lit (.string []), .lit (.string []), .nil], .agg [.lit (.int .i64 0), .lit (.int .i64 0), .lit (.int .i64 0), .lit (.int .i64 0), .lit (.int .i64 0), .lit (.int .i64 0), .lit (.int .i64 0), .lit (.int .i64 0), .lit (.int .i64 0), .lit (.string []), .lit (.string []), .lit (.string []), .nil], .agg [.lit (.int .i64 0), .lit (.int .i64 0), .lit (.int .i64 0), .lit (.int .i64 0), .lit (.int .i64 0), .agg [.lit (.int .i64 0), .lit (.int .i64 0), .lit (.int .i64 0), .lit (.int .i64 0)], .nil, .nil, .lit (.bool false)], .agg [.lit (.int .i64 0), .lit (.int .i64 0), .lit (.int .i64 0), .lit (.int .i64 0), .lit (.int .i64 0), .agg [.lit (.int .i64 0), .lit (.int .i64 0), .lit (.int .i64 0), .lit (.int .i64 0)], .nil, .nil, .lit (.bool false)]], [], places) :=
  ⟨[], by kernel_rfl⟩
set_option maxRecDepth 100000 in
theorem msgUnlike_lifted (os : Os) (started : os.Started) (H : Type) (enc : TypeId × Value → H) (F : Stop.Interp) :
    ReturnsInHanded {} Tryz.checked os 7 .any ((OpenSpec.ofChange Rows.msgUnlikeSpec).preRow enc Tryz.prog Tryz.f7 Rows.msgUnlikeRow.domain false Rows.msgUnlikeRow.laid) (((OpenSpec.ofChange Rows.msgUnlikeSpec).at F).post enc Tryz.prog Tryz.f7 false true false false) := by
  obtain ⟨places, hx⟩ := msgUnlike_reads os enc
  refine returnsInHanded_of_row (C := Tryz.checked) (s := OpenSpec.ofChange Rows.msgUnlikeSpec) own started (by kernel_rfl) Tryz.func7
    (witness_row_atRef (enc := enc) (C := Tryz.checked) false (World.doorLaid Tryz.prog 400 os) #[.agg #[.int .i64 0, .int .i64 0, .int .i64 0, .int .i64 0, .int .i64 0, .int .i64 0, .int .i64 0, .int .i64 0, .int .i64 0, .string ByteArray.empty, .string ByteArray.empty, .string ByteArray.empty, .slice none 0 0], .agg #[.int .i64 0, .int .i64 0, .int .i64 0, .int .i64 0, .int .i64 0, .int .i64 0, .int .i64 0, .int .i64 0, .int .i64 0, .string ByteArray.empty, .string ByteArray.empty, .string ByteArray.empty, .slice none 0 0], .agg #[.int .i64 0, .int .i64 0, .int .i64 0, .int .i64 0, .int .i64 0, .int .i64 0, .int .i64 0, .int .i64 0, .int .i64 0, .slice none 0 0, .slice none 0 0, .bool false], .agg #[.int .i64 0, .int .i64 0, .int .i64 0, .int .i64 0, .int .i64 0, .int .i64 0, .int .i64 0, .int .i64 0, .int .i64 0, .slice none 0 0, .slice none 0 0, .bool false]] rfl (by kernel_rfl) (by kernel_rfl) (by kernel_rfl)
      (OpenSpec.preRow_of_cond 8 hx (by kernel_rfl) (fun k hk => by cases hk) (by kernel_rfl) (door_met os _))) ?_
  intro W base args ds gs before hval hW _ hcond hsz hL _ _
  exact msgUnlike_contract H enc W base args ds gs before hval hW hsz hL
theorem msgUnlike_over : Rows.msgUnlikeRow.holds Tryz.pinned (OpenSpec.ofChange Rows.msgUnlikeSpec) :=
  OpenClaim.holds_of_cond 7 Tryz.f7 rfl rfl rfl rfl rfl rfl rfl ⟨rfl, rfl, rfl, rfl, rfl⟩ rfl rfl rfl rfl rfl (by kernel_rfl) Tryz.func7 (by kernel_rfl)
    (of_decide_eq_true (by kernel_rfl)) (by unfold Func.isWrapper; first | (rw [if_pos (by decide +kernel)]; kernel_rfl) | (rw [if_neg (by decide +kernel)]; exact ⟨rfl, rfl⟩))
    (fun os started H enc _ F => by rw [OpenClaim.pre_eq_preRow]; exact msgUnlike_lifted os started H enc F)
set_option maxRecDepth 100000 in
theorem msgUnlike_holds : Rows.MsgUnlikeCardSaid :=
  Claim7.holds_tied_plain_at .later [] _ _ _ _ msgUnlike_over (fun _ h => by cases h) (by kernel_rfl) (fun _ h => by cases h) msgUnlike_row_tie rfl ⟨rfl, rfl⟩ (by kernel_rfl) rfl
    (fun f fn hf hfn => by
      obtain rfl : f = 7 := Option.some.inj ((show Tryz.prog.funcNamed "annex/annexlaw4.MsgUnlike" = some 7 by kernel_rfl).symm.trans hf) |>.symm
      obtain rfl : fn = Tryz.f7 := (Option.some.inj (Tryz.func7.symm.trans hfn)).symm
      exact ⟨by kernel_rfl, fun j t ht => by
        rw [Tryz.params7] at ht
        have hm : t ∈ [24, 24, 30, 30] := by simpa using Array.mem_of_getElem? ht
        have hall : ([24, 24, 30, 30].all fun u => !Tryz.prog.wantsStandIn u) = true := by kernel_rfl
        exact (show Tryz.prog.wantsStandIn t = false by simpa using List.all_eq_true.1 hall t hm)⟩)
    (by kernel_rfl)
#print axioms msgUnlike_holds
end Go.Proofs.YtfolhmlldoepfaaGreatDoor
