import Derived.Test.YtfolhmlldoepfaaGreatDoorGf
namespace Go.Proofs.YtfolhmlldoepfaaGreatDoor
open Go Go.Proofs Go.RowKit
set_option maxRecDepth 4000
theorem rd_lenS {X : Type} {E : Elem X} {w : World} {sl : SlV} {xs : List X} (h : Rd E w sl.v xs) : xs.length = sl.len := by
  obtain ⟨_, _, e, _⟩ := h
  unfold SlV.v at e
  injection e with _ e _
  exact e.symm
end Go.Proofs.YtfolhmlldoepfaaGreatDoor
namespace Go.Proofs.YtfolhmlldoepfaaGreatDoor
open Go Go.Proofs Go.RowKit
set_option maxRecDepth 4000
theorem encReq_dv (r : ReqV) (sl : SlV) {ds : List Int} (h : sl.len = r.dv.len) : encReq { r with dv := sl } ds = encReq r ds := by
  unfold encReq
  rw [r.chk_dv sl h, encQ_dv]
  rfl
theorem encRep_dv (r : RepV) (sl ll : SlV) {ds : List Int} {es : List EntV} (h : sl.len = r.dv.len) (h2 : ll.len = r.lv.len) : encRep { r with dv := sl, lv := ll } ds es = encRep r ds es := by
  unfold encRep
  rw [r.chk_dv es sl ll h h2, encP_dv]
  rfl
end Go.Proofs.YtfolhmlldoepfaaGreatDoor
namespace Go.Proofs.YtfolhmlldoepfaaGreatDoor
open Go Go.Proofs Go.RowKit
set_option maxRecDepth 4000
section
variable {P : Program} {n : Nat} {ds : List Deferred} {e : Env} {w0 : World} {F0 : Nat → Prop} {L : List Asn}
theorem results3 {fn : Func} {x1 x2 x3 : ResultVar} {v1 v2 v3 : Value} (hr : fn.results = #[x1, x2, x3]) (h1 : RVal P e L x1 v1) (h2 : RVal P e L x2 v2) (h3 : RVal P e L x3 v3) {a : Act} {w : World} (ha : Has n ds a e) (hC : St w0 F0 L w) : (results fn a.tmps).run P w = .ok (.tuple #[v1, v2, v3]) w := by
  have r1 := rrv_run h1 ha hC
  have r2 := rrv_run h2 ha hC
  have r3 := rrv_run h3 ha hC
  rw [results_eq, hr]
  simp [r1, r2, r3]
theorem hq_R3 {fn : Func} {x : Exit} {x1 x2 x3 : ResultVar} {v1 v2 v3 : Value} {post : Value → List Asn → Prop} {M : List Asn} (hx : x = .normal ∨ x = .ret) (hr : fn.results = #[x1, x2, x3]) (h1 : RVal P e L x1 v1) (h2 : RVal P e L x2 v2) (h3 : RVal P e L x3 v3) (hp : post (.tuple #[v1, v2, v3]) M) (hst : ∀ w, St w0 F0 L w → St w0 F0 M w) :
    HQ n [] (bodyPost P fn (bodyR w0 F0 post)) x e (St w0 F0 L) := ⟨fun a w ha hC => by
  have hrun := results3 hr h1 h2 h3 ha hC
  have : bodyR w0 F0 post (.returned (.tuple #[v1, v2, v3])) w := ⟨_, M, rfl, hp, hst w hC⟩
  rcases hx with rfl | rfl
  · exact ⟨ha.defers, _, hrun, this⟩
  · exact ⟨ha.defers, _, hrun, this⟩⟩
end
def spareE : EntV := ⟨⟨#[115, 112, 97, 114, 101]⟩, -7, 0⟩
abbrev room3 : List Int := [161, 162, 163]
theorem room_makes {bs : List Int} {w : World} {v : Value} (h1 : Rd byteE w v bs) (hl : bs.length ≤ 140737488355100) :
    Makes Tryz.prog 17 [v] w (fun u M => M = [RowV byteE 5 u (bs ++ room3)]) := by
  refine makes_of Tryz.func17 rfl rfl (Nat.le_of_ble_eq_true rfl) ?_
  (refine Zl rfl ?_; refine h_assign rfl rfl rfl rfl ?_; refine Zt ?_; refine Zl rfl ?_; refine h_move rfl rfl rfl rfl ?_; refine hx_plain rfl ?_)
  refine h_callW (post := fun u M => M = [RowV byteE 5 u bs]) rfl rfl rfl rfl rfl rfl rfl rfl EC.out (fun w' h => bytes_makes (h.rd h1) (by omega)) ?_
  rintro u M rfl
  (refine Zn rfl rfl rfl rfl rfl ?_; refine Zl rfl ?_; refine h_move rfl rfl rfl rfl ?_; refine hx_plain rfl ?_; (refine h_buildSlice rfl rfl rfl UC.out IC.size IC.zero rfl rfl (by intro v hv; simp at hv; first | (subst hv; rfl) | (rcases hv with rfl | rfl <;> rfl) | (rcases hv with rfl | rfl | rfl <;> rfl)) (by omega) rfl rfl (fun _ => ?_)); refine hx_plain rfl ?_)
  refine h_append (m := 3) (E := byteE) (T := 5) (xs := bs) (ys := [161, 162, 163]) rfl rfl rfl rfl rfl UC.out IC.out rfl (.cons (.tail .head) (.cons .head .nil)) rfl (flat_row byteE [161, 162, 163]) (by unfold maxLen; omega) (by omega) rfl rfl (fun v' _ => ?_)
  (refine Zn rfl rfl rfl rfl rfl ?_; refine Zl rfl ?_; refine h_move rfl rfl rfl rfl ?_; refine Zn rfl rfl rfl rfl rfl ?_; refine hc_ret ?_)
  exact hq_ret1 (.inr rfl) rfl rfl rfl (fun _ h => h.sub (.cons .head .nil))
set_option maxHeartbeats 2000000 in
theorem listed_makes {es : List EntV} {w : World} {v : Value} (h1 : Rd entE w v es) (hl : es.length ≤ 1048576) :
    Makes Tryz.prog 50 [v] w (fun u M => M = [RowV entE 94 u (es ++ [spareE])]) := by
  obtain ⟨a1, c1, rfl, l1, m1, k1⟩ := h1
  unfold maxLen at m1
  refine makes_of Tryz.func50 rfl rfl (Nat.le_of_ble_eq_true rfl) ?_
  ((iterate 2 (refine Zl rfl ?_; refine h_assign rfl rfl rfl rfl ?_; refine Zt ?_)); refine hc_seq ?_; refine Zl rfl ?_; refine h_assign rfl rfl rfl rfl ?_; refine Zt ?_; refine hc_block ?_)
  refine hc_cut (id := 0) (Y := Value) (fun v => [(3, v)]) (fun v => [RowV entE 94 v es]) (fun _ => True) ?_ ?_
  · refine hc_loop (X := Nat × Value) (fun x => [(0, .slice a1 es.length c1), (3, x.2), (4, .int .i64 (x.1 : Int))]) (fun x => [RowV entE 94 x.2 (es.take x.1)]) (fun x => x.1 ≤ es.length) (fun x => es.length - x.1) (0, .slice none 0 0) (.cons rfl (.cons rfl (.cons rfl .nil))) (Nat.zero_le _) (fun _ h => St.rowV_nil h) ?_
    rintro ⟨i, v⟩ hi
    dsimp only at hi ⊢
    by_cases hlt : i < es.length
    · have hps : es ≠ [] := by
        intro e
        rw [e] at hlt
        exact absurd hlt (Nat.not_lt_zero _)
      obtain ⟨g1, o1, rfl, r1⟩ := k1.resolve_left hps
      obtain ⟨⟨nm, id, kd⟩, hq⟩ : ∃ q, es[i]? = some q := ⟨_, List.getElem?_eq_getElem hlt⟩
      have e1 : es[((i : Nat) : Int).toNat]? = some ⟨nm, id, kd⟩ := hq
      have hlen : (es.take i).length = i := by rw [List.length_take]; omega
      (refine hc_seq ?_; refine Zl rfl ?_; refine h_move rfl rfl rfl rfl ?_; refine Zm rfl rfl rfl rfl rfl ?_; refine hx_plain rfl ?_; refine h_len_slice rfl rfl rfl UC.out rfl rfl rfl ?_; refine Zc rfl rfl rfl rfl rfl rfl rfl ?_; refine Zt ?_; refine hc_condDT rfl (by omega) ?_; refine hc_skip ?_; refine hq_then ?_; refine hc_seq ?_; refine hc_block ?_; refine hc_lex ?_; (iterate 3 (refine Zm rfl rfl rfl rfl rfl ?_)); refine hx_plain rfl ?_; refine h_indexAddr rfl rfl rfl UC.out IC.size (by omega) (by omega) rfl rfl ?_; refine hx_plain rfl ?_; refine h_rdLoadN rfl r1 rfl UC.out rfl IC.size (by with_reducible assumption) rfl rfl rfl ?_; refine hx_plain rfl ?_; (refine h_buildSlice rfl rfl rfl UC.out IC.size IC.zero rfl rfl (by intro v hv; simp at hv; first | (subst hv; rfl) | (rcases hv with rfl | rfl <;> rfl) | (rcases hv with rfl | rfl | rfl <;> rfl)) (by omega) rfl rfl (fun _ => ?_)); refine hx_plain rfl ?_)
      refine h_append (m := 1) (E := entE) (T := 94) (xs := es.take i) (ys := [⟨nm, id, kd⟩]) rfl rfl rfl rfl rfl UC.out IC.out rfl (.cons (.tail .head) (.cons .head .nil)) rfl (one_row entE _) (by unfold maxLen; omega) (by omega) rfl rfl (fun v' _ => ?_)
      (refine Za rfl rfl rfl rfl rfl ?_; refine hx_nil ?_; refine hq_norm_block ?_; refine hq_then ?_; refine hc_lex ?_; refine Zm rfl rfl rfl rfl rfl ?_; refine hx_plain rfl ?_; refine h_arithI rfl rfl rfl rfl (by omega) rfl rfl ?_; refine Za rfl rfl rfl rfl rfl ?_; refine hx_nil ?_)
      refine hq_round (i + 1, v') (by show es.length - (i + 1) < es.length - i; omega) (by show i + 1 ≤ es.length; omega) (.cons rfl (.cons rfl (.cons rfl .nil))) (fun _ h => ?_)
      show St w nowhere [RowV entE 94 v' (es.take (i + 1))] _
      rw [List.take_add_one, hq]
      exact h.sub (.cons .head .nil)
    · (refine hc_seq ?_; refine Zl rfl ?_; refine h_move rfl rfl rfl rfl ?_; refine Zm rfl rfl rfl rfl rfl ?_; refine hx_plain rfl ?_; refine h_len_slice rfl rfl rfl UC.out rfl rfl rfl ?_; refine Zc rfl rfl rfl rfl rfl rfl rfl ?_; refine Zt ?_; refine hc_condDF rfl (by omega) ?_; refine hc_exit ?_; (iterate 2 (refine hq_exit_then ?_)))
      refine hq_cut v trivial (.cons rfl .nil) (fun _ h => ?_)
      rw [List.take_of_length_le (by omega)] at h
      exact h
  rintro v _
  (refine hq_exit_block ?_; refine hq_then ?_; refine Zl rfl ?_; refine h_move rfl rfl rfl rfl ?_; refine hx_plain rfl ?_; refine h_build rfl inferInstance rfl rfl rfl rfl ?_; refine hx_plain rfl ?_; (refine h_buildSlice rfl rfl rfl UC.out IC.size IC.zero rfl rfl (by intro v hv; simp at hv; first | (subst hv; rfl) | (rcases hv with rfl | rfl <;> rfl) | (rcases hv with rfl | rfl | rfl <;> rfl)) (by omega) rfl rfl (fun _ => ?_)); refine hx_plain rfl ?_)
  refine h_append (m := 1) (E := entE) (T := 94) (xs := es) (ys := [spareE]) rfl rfl rfl rfl rfl UC.out IC.out rfl (.cons (.tail .head) (.cons .head .nil)) rfl (one_row entE spareE) (by unfold maxLen; omega) (by omega) rfl rfl (fun v' _ => ?_)
  (refine Zn rfl rfl rfl rfl rfl ?_; refine Zl rfl ?_; refine h_move rfl rfl rfl rfl ?_; refine Zn rfl rfl rfl rfl rfl ?_; refine hc_ret ?_)
  exact hq_ret1 (.inr rfl) rfl rfl rfl (fun _ h => h.sub (.cons .head .nil))
/-- A request with spare room behind its bytes, and all of that. -/
def AskP (r : ReqV) (ds : List Int) (u : Value) (M : List Asn) : Prop := ∃ g c, u = .tuple #[.agg ({ r with dv := ⟨some ⟨g, 0, none⟩, ds.length, c⟩ } : ReqV).cs, .slice (some ⟨g, 0, none⟩) (ds.length + 3) c] ∧ ds.length + 3 ≤ c ∧ M = [RowV byteE 5 (.slice (some ⟨g, 0, none⟩) (ds.length + 3) c) (ds ++ room3)]
set_option maxHeartbeats 2000000 in
theorem asked_makes (r : ReqV) {ds : List Int} {w : World} (hd : Rd byteE w r.dv.v ds) (hl : ds.length ≤ 1048576) : Makes Tryz.prog 13 [Value.agg r.cs] w (AskP r ds) := by
  have hdl : ds.length = r.dv.len := rd_lenS hd
  obtain ⟨client, seq, ack, epoch, op, id, id2, off, len, path, name, name2, ⟨da, dn, dc⟩⟩ := r
  dsimp only at hdl
  subst hdl
  dsimp only [ReqV.cs, SlV.v] at hd ⊢
  refine makes_of Tryz.func13 rfl rfl (Nat.le_of_ble_eq_true rfl) ?_
  (refine Zl rfl ?_; (refine h_box rfl rfl rfl rfl rfl rfl (fun _ => ?_)); refine hx_plain rfl ?_; (refine h_alloc rfl rfl IC.zero rfl rfl rfl (fun _ => ?_)); refine Zn rfl rfl rfl rfl rfl ?_; refine Zl rfl ?_; refine h_fieldAddr0 rfl rfl FC.out rfl rfl ?_; refine hx_plain rfl ?_; refine h_load rfl rfl UC.out rfl (.tail .head) rfl rfl rfl ?_; refine hx_plain rfl ?_)
  refine h_callW (post := fun u M => M = [RowV byteE 5 u (ds ++ room3)]) rfl rfl rfl rfl rfl rfl rfl rfl EC.out (fun w' h => room_makes (hd.but h.but) (by omega)) ?_
  rintro u M rfl
  have hl3 : (ds ++ room3).length = ds.length + 3 := by rw [List.length_append]; rfl
  (refine Zn rfl rfl rfl rfl rfl ?_)
  refine hc_rowV .head (fun _ e => by rw [e] at hl3; simp at hl3) ?_
  rw [hl3]
  rintro g cap rfl
  refine hc_know (fun _ h => h.row_le) ?_
  rintro ⟨hcp, _⟩
  rw [hl3] at hcp
  (refine Zl rfl ?_; refine h_move rfl rfl rfl rfl ?_; refine Zf rfl rfl rfl rfl rfl ?_; refine hx_plain rfl ?_; refine h_load rfl rfl UC.out rfl (.tail (.tail .head)) rfl rfl rfl ?_; refine hx_plain rfl ?_; refine h_len_slice rfl rfl rfl UC.out rfl rfl rfl ?_; refine hx_plain rfl ?_; refine h_sliceTo rfl rfl rfl UC.out IC.size (by omega) rfl rfl ?_; refine Zf rfl rfl rfl rfl rfl ?_; refine hx_plain rfl ?_; refine h_store rfl rfl rfl rfl rfl rfl IC.size (.tail (.tail .head)) rfl rfl (Nat.le_of_ble_eq_true rfl) (List.all_eq_true.1 rfl) ?_; refine Zt ?_; refine Zl rfl ?_)
  refine h_loadP (cs' := (⟨client, seq, ack, epoch, op, id, id2, off, len, path, name, name2, ⟨some ⟨g, 0, none⟩, ds.length, cap⟩⟩ : ReqV).cs) rfl rfl UC.out rfl IC.size .head rfl (by kernel_rfl) rfl rfl ?_
  (refine Zm rfl rfl rfl rfl rfl ?_; refine hx_plain rfl ?_; refine h_storeAll rfl rfl rfl rfl rfl rfl IC.size (.tail (.tail .head)) rfl rfl rfl (List.all_eq_true.1 rfl) ?_; refine Zn rfl rfl rfl rfl rfl ?_; refine hc_ret ?_)
  refine hq_R2 (.inr rfl) rfl (rv_cell rfl .head UC.out rfl IC.size) (rv_tmp rfl) ⟨g, cap, rfl, hcp, rfl⟩ (fun x h => ?_)
  have h1 : St w nowhere [Row byteE 5 g cap (ds ++ room3)] x := by (refine St.sub ?_ h; (with_reducible refine .cons (.tail (.tail .head)) ?_); exact .nil)
  have h2 := St.rowV_mk h1
  rw [hl3] at h2
  exact h2
def TolP (y : RepV) (ps : List Int) (es : List EntV) (u : Value) (M : List Asn) : Prop := ∃ g c g2 c2, u = .tuple #[.agg ({ y with dv := ⟨some ⟨g, 0, none⟩, ps.length, c⟩, lv := ⟨some ⟨g2, 0, none⟩, es.length, c2⟩ } : RepV).cs, .slice (some ⟨g, 0, none⟩) (ps.length + 3) c, .slice (some ⟨g2, 0, none⟩) (es.length + 1) c2] ∧ (ps.length + 3 ≤ c ∧ es.length + 1 ≤ c2) ∧ M = [RowV byteE 5 (.slice (some ⟨g, 0, none⟩) (ps.length + 3) c) (ps ++ room3), RowV entE 94 (.slice (some ⟨g2, 0, none⟩) (es.length + 1) c2) (es ++ [spareE])]
set_option maxHeartbeats 4000000 in
theorem told_makes (y : RepV) {ps : List Int} {es : List EntV} {w : World} (hp : Rd byteE w y.dv.v ps) (hes : Rd entE w y.lv.v es) (hl : ps.length ≤ 1048576) (hle : es.length ≤ 1048576) : Makes Tryz.prog 19 [Value.agg y.cs] w (TolP y ps es) := by
  have hpl : ps.length = y.dv.len := rd_lenS hp
  have hll : es.length = y.lv.len := rd_lenS hes
  obtain ⟨client, seq, epoch, op, status, aid, akind, asize, achange, ⟨da, dn, dc⟩, ⟨la, ln, lc⟩, more⟩ := y
  dsimp only at hpl hll
  subst hpl hll
  dsimp only [RepV.cs, SlV.v] at hp hes ⊢
  refine makes_of Tryz.func19 rfl rfl (Nat.le_of_ble_eq_true rfl) ?_
  (refine Zl rfl ?_; (refine h_box rfl rfl rfl rfl rfl rfl (fun _ => ?_)); refine hx_plain rfl ?_; (refine h_alloc rfl rfl IC.zero rfl rfl rfl (fun _ => ?_)); refine Za rfl rfl rfl rfl rfl ?_; refine Zn rfl rfl rfl rfl rfl ?_; refine Zl rfl ?_; refine h_fieldAddr0 rfl rfl FC.out rfl rfl ?_; refine hx_plain rfl ?_; refine h_load rfl rfl UC.out rfl (.tail .head) rfl rfl rfl ?_; refine hx_plain rfl ?_)
  refine h_callW (post := fun u M => M = [RowV byteE 5 u (ps ++ room3)]) rfl rfl rfl rfl rfl rfl rfl rfl EC.out (fun w' h => room_makes (hp.but h.but) (by omega)) ?_
  rintro u M rfl
  (refine Zn rfl rfl rfl rfl rfl ?_; refine Zl rfl ?_; refine h_fieldAddr0 rfl rfl FC.out rfl rfl ?_; refine hx_plain rfl ?_; refine h_load rfl rfl UC.out rfl (.tail (.tail .head)) rfl rfl rfl ?_; refine hx_plain rfl ?_)
  refine h_callW (post := fun u M => M = [RowV entE 94 u (es ++ [spareE])]) rfl rfl rfl rfl rfl rfl rfl rfl EC.out (fun w' h => listed_makes (hes.but h.but) (by omega)) ?_
  rintro u2 M rfl
  have hl3 : (ps ++ room3).length = ps.length + 3 := by rw [List.length_append]; rfl
  have hl1 : (es ++ [spareE]).length = es.length + 1 := by rw [List.length_append]; rfl
  (refine Zn rfl rfl rfl rfl rfl ?_)
  refine hc_rowV .head (fun _ e => by rw [e] at hl1; simp at hl1) ?_
  rw [hl1]
  rintro g2 cap2 rfl
  refine hc_know (fun _ h => h.row_le) ?_
  rintro ⟨hcp2, _⟩
  rw [hl1] at hcp2
  refine hc_rowV (.tail .head) (fun _ e => by rw [e] at hl3; simp at hl3) ?_
  rw [hl3]
  rintro g cap rfl
  refine hc_know (fun _ h => h.row_le) ?_
  rintro ⟨hcp, _⟩
  rw [hl3] at hcp
  (refine Zl rfl ?_; refine h_move rfl rfl rfl rfl ?_; refine Zf rfl rfl rfl rfl rfl ?_; refine hx_plain rfl ?_; refine h_load rfl rfl UC.out rfl (.tail (.tail (.tail .head))) rfl rfl rfl ?_; refine hx_plain rfl ?_; refine h_len_slice rfl rfl rfl UC.out rfl rfl rfl ?_; refine hx_plain rfl ?_; refine h_sliceTo rfl rfl rfl UC.out IC.size (by omega) rfl rfl ?_; refine Zf rfl rfl rfl rfl rfl ?_; refine hx_plain rfl ?_; refine h_store rfl rfl rfl rfl rfl rfl IC.size (.tail (.tail (.tail .head))) rfl rfl (Nat.le_of_ble_eq_true rfl) (List.all_eq_true.1 rfl) ?_; refine Zt ?_; refine Zl rfl ?_; refine h_move rfl rfl rfl rfl ?_; refine Zf rfl rfl rfl rfl rfl ?_; refine hx_plain rfl ?_; refine h_load rfl rfl UC.out rfl .head rfl rfl rfl ?_; refine hx_plain rfl ?_; refine h_len_slice rfl rfl rfl UC.out rfl rfl rfl ?_; refine hx_plain rfl ?_; refine h_sliceTo rfl rfl rfl UC.out IC.size (by omega) rfl rfl ?_; refine Zf rfl rfl rfl rfl rfl ?_; refine hx_plain rfl ?_; refine h_store rfl rfl rfl rfl rfl rfl IC.size .head rfl rfl (Nat.le_of_ble_eq_true rfl) (List.all_eq_true.1 rfl) ?_; refine Zt ?_; refine Zl rfl ?_)
  refine h_loadP (cs' := (⟨client, seq, epoch, op, status, aid, akind, asize, achange, ⟨some ⟨g, 0, none⟩, ps.length, cap⟩, ⟨some ⟨g2, 0, none⟩, es.length, cap2⟩, more⟩ : RepV).cs) rfl rfl UC.out rfl IC.size .head rfl (by kernel_rfl) rfl rfl ?_
  ((iterate 2 (refine Zm rfl rfl rfl rfl rfl ?_)); refine hx_plain rfl ?_; refine h_storeAll rfl rfl rfl rfl rfl rfl IC.size (.tail (.tail (.tail .head))) rfl rfl rfl (List.all_eq_true.1 rfl) ?_; refine Za rfl rfl rfl rfl rfl ?_; refine Zn rfl rfl rfl rfl rfl ?_; refine hc_ret ?_)
  refine hq_R3 (.inr rfl) rfl (rv_cell rfl .head UC.out rfl IC.size) (rv_tmp rfl) (rv_tmp rfl) ⟨g, cap, g2, cap2, rfl, ⟨hcp, hcp2⟩, rfl⟩ (fun x h => ?_)
  have h1 : St w nowhere [Row byteE 5 g cap (ps ++ room3), Row entE 94 g2 cap2 (es ++ [spareE])] x := by (refine St.sub ?_ h; (with_reducible refine .cons (.tail (.tail .head)) ?_); (with_reducible refine .cons (.tail (.tail .head)) ?_); exact .nil)
  have h2 := St.rowV_mk h1
  rw [hl3] at h2
  have h3 := St.rowV_mk (h2.perm (List.Perm.swap _ _ _))
  rw [hl1] at h3
  exact h3.perm (List.Perm.swap _ _ _)
theorem rd_full {X : Type} {E : Elem X} {w : World} {xs ys : List X} {g c n : Nat} (h : Rd E w (.slice (some ⟨g, 0, none⟩) (xs ++ ys).length c) (xs ++ ys)) (hn : n = xs.length) : Rd E w (.slice (some ⟨g, 0, none⟩) n c) xs := by
  subst hn
  have := h.takeN (n := xs.length) (by rw [List.length_append]; omega)
  rw [List.take_left] at this
  exact this
set_option maxHeartbeats 2000000 in
theorem kept_reads (y : RepV) {ps : List Int} {es : List EntV} {w : World} {v1 v2 : Value} {xs : List Int} {ls : List EntV} (hp : Rd byteE w y.dv.v ps) (hes : Rd entE w y.lv.v es) (hl : ps.length ≤ 1048576) (hle : es.length ≤ 1048576) (h1 : Rd byteE w v1 xs) (h2 : Rd entE w v2 ls) :
    Calls Tryz.prog 22 [Value.agg y.cs, v1, v2].toArray w (fun en w' => en = .returned (.bool (decide (xs = ps ++ room3) && decide (ls = es ++ [spareE]))) ∧ But w w' nowhere) := by
  obtain ⟨client, seq, epoch, op, status, aid, akind, asize, achange, ⟨da, dn, dc⟩, ⟨la, ln, lc⟩, more⟩ := y
  dsimp only [RepV.cs, SlV.v] at hp hes ⊢
  refine reads_of Tryz.func22 rfl rfl (Nat.le_of_ble_eq_true rfl) ?_
  (refine Zl rfl ?_; (refine h_box rfl rfl rfl rfl rfl rfl (fun _ => ?_)); refine Zn rfl rfl rfl rfl rfl ?_; refine Zl rfl ?_; refine h_move rfl rfl rfl rfl ?_; refine Zf rfl rfl rfl rfl rfl ?_; refine hx_plain rfl ?_; refine h_load rfl rfl UC.out rfl .head rfl rfl rfl ?_; refine hx_plain rfl ?_)
  refine h_callW (post := fun u M => M = [RowV byteE 5 u (ps ++ room3)]) rfl rfl rfl rfl rfl rfl rfl rfl EC.out (fun w' h => room_makes (hp.but h.but) (by omega)) ?_
  rintro u M rfl
  (refine hx_plain rfl ?_)
  refine h_callRd rfl rfl rfl rfl rfl rfl EC.out (fun w' h => sameBytes (h1.but h.but) (h.rdRowV .head)) ?_
  (refine Zn rfl rfl rfl rfl rfl ?_; refine Zl rfl ?_; refine h_move rfl rfl rfl rfl ?_; refine Zf rfl rfl rfl rfl rfl ?_; refine hx_plain rfl ?_; refine h_load rfl rfl UC.out rfl (.tail .head) rfl rfl rfl ?_; refine hx_plain rfl ?_)
  refine h_callW (post := fun u M => M = [RowV entE 94 u (es ++ [spareE])]) rfl rfl rfl rfl rfl rfl rfl rfl EC.out (fun w' h => listed_makes (hes.but h.but) (by omega)) ?_
  rintro u2 M rfl
  (refine hx_plain rfl ?_)
  refine h_callRd rfl rfl rfl rfl rfl rfl EC.out (fun w' h => sameEntries (h2.but h.but) (h.rdRowV .head)) ?_
  obtain ⟨b1, hb1⟩ : ∃ b, decide (xs = ps ++ room3) = b := ⟨_, rfl⟩
  rw [hb1]
  cases b1
  ·
    (refine Zn rfl rfl rfl rfl rfl ?_; refine Zl rfl ?_; refine h_move rfl rfl rfl rfl ?_; refine Zm rfl rfl rfl rfl rfl ?_; refine hx_skip rfl rfl rfl rfl rfl rfl ?_; refine Zp rfl rfl rfl rfl rfl rfl ?_; refine Zn rfl rfl rfl rfl rfl ?_; refine hc_ret ?_)
    exact hq_ret1 (.inr rfl) rfl rfl ⟨rfl, rfl⟩ (fun _ h => h.emp)
  ·
    (refine Zn rfl rfl rfl rfl rfl ?_; refine Zl rfl ?_; refine h_move rfl rfl rfl rfl ?_; refine Zm rfl rfl rfl rfl rfl ?_; refine hx_yes rfl rfl rfl ?_; refine h_move rfl rfl rfl rfl ?_; refine Zq rfl rfl rfl rfl rfl rfl ?_; refine Zn rfl rfl rfl rfl rfl ?_; refine hc_ret ?_)
    exact hq_ret1 (.inr rfl) rfl rfl ⟨rfl, rfl⟩ (fun _ h => h.emp)
set_option maxHeartbeats 8000000 in
theorem checks_law {w : World} (hk : Known w) (r : ReqV) (y : RepV) {ds ps : List Int} {es : List EntV} (hd : Rd byteE w r.dv.v ds) (hp : Rd byteE w y.dv.v ps) (hl : Rd entE w y.lv.v es) (sp : r.path.size ≤ 1048576) (sd : ds.length ≤ 1048576) (s1 : ps.length ≤ 1048576) (s2 : es.length ≤ 1048576) :
    Calls Tryz.prog 3 [Value.agg r.cs, Value.agg y.cs].toArray w (fun en w' => en = .returned (.bool true) ∧ But w w' nowhere) := by
  obtain ⟨r0, hr0⟩ : ∃ r0, r0 = r := ⟨_, rfl⟩
  obtain ⟨y0, hy0⟩ : ∃ y0, y0 = y := ⟨_, rfl⟩
  rw [← hr0] at hd sp
  rw [← hy0] at hp hl
  have hdl : ds.length = r0.dv.len := rd_lenS hd
  have hpl : ps.length = y0.dv.len := rd_lenS hp
  have hll : es.length = y0.lv.len := rd_lenS hl
  obtain ⟨client, seq, ack, epoch, op, id, id2, off, len, path, name, name2, ⟨da, dn, dc⟩⟩ := r
  obtain ⟨pclient, pseq, pepoch, pop, status, aid, akind, asize, achange, ⟨pa, pn, pc⟩, ⟨la, ln, lc⟩, more⟩ := y
  dsimp only [ReqV.cs, RepV.cs, SlV.v]
  refine reads_of Tryz.func3 rfl rfl (Nat.le_of_ble_eq_true rfl) ?_
  (refine Zl rfl ?_; (refine h_box rfl rfl rfl rfl rfl rfl (fun _ => ?_)); refine hx_plain rfl ?_; (refine h_box rfl rfl rfl rfl rfl rfl (fun _ => ?_)); refine Zn rfl rfl rfl rfl rfl ?_; refine Zl rfl ?_)
  refine h_callRd rfl rfl rfl rfl rfl rfl EC.out (fun w' h => head_reads (hk.but h.but)) ?_
  (refine Zn rfl rfl rfl rfl rfl ?_; refine hc_seq ?_; refine Zl rfl ?_; refine h_move rfl rfl rfl rfl ?_; refine hx_plain rfl ?_; refine h_not rfl rfl rfl rfl ?_; refine Zt ?_; refine hc_condF rfl ?_; refine hc_skip ?_; refine hq_then ?_; refine Zl rfl ?_)
  rename_i bq bp'
  refine h_loadP (cs' := #[.int .i64 client, .int .i64 seq, .int .i64 ack, .int .i64 epoch, .int .i64 op, .int .i64 id, .int .i64 id2, .int .i64 off, .int .i64 len, .string path, .string name, .string name2, .slice da dn dc]) rfl rfl UC.out rfl IC.size (.tail .head) rfl (by kernel_rfl) rfl rfl ?_
  (refine hx_plain rfl ?_)
  refine h_callW (post := AskP r0 ds) rfl rfl rfl rfl rfl rfl rfl rfl EC.out (fun w' h => by have := asked_makes r0 (hd.but h.but) sd; rw [hr0] at this ⊢; exact this) ?_
  rintro u M ⟨g, c, rfl, hc3, rfl⟩
  rw [hr0]
  dsimp only [ReqV.cs, SlV.v]
  (refine Zm rfl rfl rfl rfl rfl ?_; (iterate 2 (refine hx_plain rfl ?_; refine h_extract rfl rfl rfl rfl rfl ?_)); refine hx_plain rfl ?_; (refine h_alloc rfl rfl IC.zero rfl rfl rfl (fun _ => ?_)); refine hx_plain rfl ?_; refine h_storeAll rfl rfl rfl rfl rfl rfl IC.size .head rfl rfl rfl (List.all_eq_true.1 rfl) ?_; refine Zn rfl rfl rfl rfl rfl ?_; refine Zl rfl ?_)
  refine h_loadP (cs' := (⟨client, seq, ack, epoch, op, id, id2, off, len, path, name, name2, ⟨some ⟨g, 0, none⟩, ds.length, c⟩⟩ : ReqV).cs) rfl rfl UC.out rfl IC.size .head rfl (by kernel_rfl) rfl rfl ?_
  (refine hx_plain rfl ?_)
  refine h_callRd (v := .int .i64 r0.chk) rfl rfl rfl rfl rfl rfl EC.out (fun w' h => by
    have := checkQ_reads (hk.but h.but) { r0 with dv := ⟨some ⟨g, 0, none⟩, ds.length, c⟩ }
    rw [r0.chk_dv ⟨some ⟨g, 0, none⟩, ds.length, c⟩ hdl] at this
    rw [hr0] at this ⊢
    exact this) ?_
  (refine Zn rfl rfl rfl rfl rfl ?_; refine Zl rfl ?_)
  refine h_loadP (cs' := #[.int .i64 client, .int .i64 seq, .int .i64 ack, .int .i64 epoch, .int .i64 op, .int .i64 id, .int .i64 id2, .int .i64 off, .int .i64 len, .string path, .string name, .string name2, .slice da dn dc]) rfl rfl UC.out rfl IC.size (.tail (.tail (.tail .head))) rfl (by kernel_rfl) rfl rfl ?_
  (refine hx_plain rfl ?_)
  refine h_callRd (v := .int .i64 r0.chk) rfl rfl rfl rfl rfl rfl EC.out (fun w' h => by have := rcheckRequest_reads (w := w') r0 sp; rw [hr0] at this ⊢; exact this) ?_
  obtain ⟨ck, hck⟩ : ∃ c, r0.chk = c := ⟨_, rfl⟩
  rw [hck]
  (refine Zn rfl rfl rfl rfl rfl ?_; refine Zl rfl ?_; refine h_move rfl rfl rfl rfl ?_; refine Zf rfl rfl rfl rfl rfl ?_; refine hx_plain rfl ?_; refine h_load rfl rfl UC.out rfl (.tail (.tail (.tail .head))) rfl rfl rfl ?_; refine hx_plain rfl ?_)
  refine h_callW (post := fun u M => M = [RowV byteE 5 u (ds ++ room3)]) rfl rfl rfl rfl rfl rfl rfl rfl EC.out (fun w' h => room_makes (by have := hd.but h.but; rw [hr0] at this; exact this) (by omega)) ?_
  rintro u M rfl
  have hl3 : (ds ++ room3).length = ds.length + 3 := by rw [List.length_append]; rfl
  (refine hx_plain rfl ?_)
  refine h_callRd rfl rfl rfl rfl rfl rfl EC.out (fun w' h => sameBytes (h.rdRowV (xs := ds ++ room3) (.tail (.tail .head))) (h.rdRowV .head)) ?_
  rw [decide_eq_true rfl]
  (refine Zn rfl rfl rfl rfl rfl ?_)
  refine hc_st (C' := St w nowhere [Blk bp' (.cells #[.int .i64 pclient, .int .i64 pseq, .int .i64 pepoch, .int .i64 pop, .int .i64 status, .int .i64 aid, .int .i64 akind, .int .i64 asize, .int .i64 achange, .slice pa pn pc, .slice la ln lc, .bool more] 30 (0, 0))]) (fun _ h => by (refine St.sub ?_ h; refine .cons (.tail (.tail (.tail .head))) ?_; exact .nil)) ?_
  (refine hc_seq ?_; refine Zl rfl ?_; refine h_move rfl rfl rfl rfl ?_; refine hx_plain rfl ?_)
  refine h_callR rfl rfl rfl rfl rfl rfl EC.out ((lnum_spec ck).reads _) ?_
  (refine Zm rfl rfl rfl rfl rfl ?_; refine Zc rfl rfl rfl rfl rfl rfl rfl ?_; refine Zm rfl rfl rfl rfl rfl ?_; refine hx_gF rfl rfl rfl (by omega) ?_; refine hx_yes rfl rfl rfl ?_; refine h_move rfl rfl rfl rfl ?_; refine hx_yes rfl rfl rfl ?_; refine h_not rfl rfl rfl rfl ?_; refine Zp rfl rfl rfl rfl rfl rfl ?_; refine Zt ?_; refine hc_condF rfl ?_; refine hc_skip ?_; refine hq_then ?_; refine Zl rfl ?_)
  refine h_loadP (cs' := #[.int .i64 pclient, .int .i64 pseq, .int .i64 pepoch, .int .i64 pop, .int .i64 status, .int .i64 aid, .int .i64 akind, .int .i64 asize, .int .i64 achange, .slice pa pn pc, .slice la ln lc, .bool more]) rfl rfl UC.out rfl IC.size .head rfl (by kernel_rfl) rfl rfl ?_
  (refine hx_plain rfl ?_)
  refine h_callW (post := TolP y0 ps es) rfl rfl rfl rfl rfl rfl rfl rfl EC.out (fun w' h => by have := told_makes y0 (hp.but h.but) (hl.but h.but) s1 s2; rw [hy0] at this ⊢; exact this) ?_
  rintro u M ⟨g1, c1, g2, c2, rfl, ⟨hc4, hc5⟩, rfl⟩
  rw [hy0]
  dsimp only [RepV.cs, SlV.v]
  (refine Zm rfl rfl rfl rfl rfl ?_; (iterate 3 (refine hx_plain rfl ?_; refine h_extract rfl rfl rfl rfl rfl ?_)); refine hx_plain rfl ?_; (refine h_alloc rfl rfl IC.zero rfl rfl rfl (fun _ => ?_)); refine hx_plain rfl ?_; refine h_storeAll rfl rfl rfl rfl rfl rfl IC.size .head rfl rfl rfl (List.all_eq_true.1 rfl) ?_; refine Za rfl rfl rfl rfl rfl ?_; refine Zn rfl rfl rfl rfl rfl ?_; refine Zl rfl ?_)
  refine h_loadP (cs' := (⟨pclient, pseq, pepoch, pop, status, aid, akind, asize, achange, ⟨some ⟨g1, 0, none⟩, ps.length, c1⟩, ⟨some ⟨g2, 0, none⟩, es.length, c2⟩, more⟩ : RepV).cs) rfl rfl UC.out rfl IC.size .head rfl (by kernel_rfl) rfl rfl ?_
  (refine hx_plain rfl ?_)
  have hl1 : (es ++ [spareE]).length = es.length + 1 := by rw [List.length_append]; rfl
  refine h_callRd (v := .int .i64 (y0.chk es)) rfl rfl rfl rfl rfl rfl EC.out (fun w' h => by
    have hrd := h.rdRowV (xs := es ++ [spareE]) (.tail (.tail .head))
    rw [← hl1] at hrd
    have := checkP_reads (hk.but h.but) { y0 with dv := ⟨some ⟨g1, 0, none⟩, ps.length, c1⟩, lv := ⟨some ⟨g2, 0, none⟩, es.length, c2⟩ } (rd_full hrd rfl)
    rw [y0.chk_dv es ⟨some ⟨g1, 0, none⟩, ps.length, c1⟩ ⟨some ⟨g2, 0, none⟩, es.length, c2⟩ hpl hll] at this
    rw [hy0] at this ⊢
    exact this) ?_
  (refine Zn rfl rfl rfl rfl rfl ?_; refine Zl rfl ?_)
  refine h_loadP (cs' := #[.int .i64 pclient, .int .i64 pseq, .int .i64 pepoch, .int .i64 pop, .int .i64 status, .int .i64 aid, .int .i64 akind, .int .i64 asize, .int .i64 achange, .slice pa pn pc, .slice la ln lc, .bool more]) rfl rfl UC.out rfl IC.size (.tail (.tail (.tail .head))) rfl (by kernel_rfl) rfl rfl ?_
  (refine hx_plain rfl ?_)
  refine h_callRd (v := .int .i64 (y0.chk es)) rfl rfl rfl rfl rfl rfl EC.out (fun w' h => by have := rcheckReply_reads (w := w') y0 (hl.but h.but); rw [hy0] at this ⊢; exact this) ?_
  obtain ⟨ck2, hck2⟩ : ∃ c, y0.chk es = c := ⟨_, rfl⟩
  rw [hck2]
  (refine Zn rfl rfl rfl rfl rfl ?_; refine Zl rfl ?_)
  refine h_loadP (cs' := #[.int .i64 pclient, .int .i64 pseq, .int .i64 pepoch, .int .i64 pop, .int .i64 status, .int .i64 aid, .int .i64 akind, .int .i64 asize, .int .i64 achange, .slice pa pn pc, .slice la ln lc, .bool more]) rfl rfl UC.out rfl IC.size (.tail (.tail (.tail .head))) rfl (by kernel_rfl) rfl rfl ?_
  ((iterate 2 (refine Zm rfl rfl rfl rfl rfl ?_)); refine hx_plain rfl ?_)
  refine h_callRd (v := .bool true) rfl rfl rfl rfl rfl rfl EC.out (fun w' h => by
    have := kept_reads y0 (hp.but h.but) (hl.but h.but) s1 s2 (h.rdRowV (xs := ps ++ room3) (.tail .head)) (h.rdRowV (xs := es ++ [spareE]) (.tail (.tail .head)))
    rw [decide_eq_true rfl, decide_eq_true rfl] at this
    rw [hy0] at this
    exact this) ?_
  (refine Zn rfl rfl rfl rfl rfl ?_; refine Zl rfl ?_; refine h_move rfl rfl rfl rfl ?_; refine hx_plain rfl ?_)
  refine h_callR rfl rfl rfl rfl rfl rfl EC.out ((lnum_spec ck2).reads _) ?_
  (refine Zm rfl rfl rfl rfl rfl ?_; refine Zc rfl rfl rfl rfl rfl rfl rfl ?_; refine Zm rfl rfl rfl rfl rfl ?_; refine hx_gT rfl rfl rfl (by omega) ?_; refine hx_yes rfl rfl rfl ?_; refine h_move rfl rfl rfl rfl ?_; refine Zq rfl rfl rfl rfl rfl rfl ?_; refine Zn rfl rfl rfl rfl rfl ?_; refine hc_ret ?_)
  exact hq_ret1 (.inr rfl) rfl rfl ⟨rfl, rfl⟩ (fun _ h => h.emp)
end Go.Proofs.YtfolhmlldoepfaaGreatDoor
namespace Go.Proofs.YtfolhmlldoepfaaGreatDoor
open Go Go.Proofs Go.RowKit
set_option maxRecDepth 4000
def BytP (bs : List Int) (u : Value) (M : List Asn) : Prop := ∃ a c, u = .slice a bs.length c ∧ M = [RowV byteE 5 (.slice a bs.length c) bs]
theorem bytes_lit {bs : List Int} {w : World} {v : Value} (h1 : Rd byteE w v bs) (hl : bs.length ≤ 140737488355200) : Makes Tryz.prog 44 [v] w (BytP bs) :=
  (bytes_makes h1 hl).imp fun u M _ _ _ h hst => by
    subst h
    obtain ⟨a, c, rfl⟩ := St.rowV_shapeS hst .head
    exact ⟨a, c, rfl, rfl⟩
theorem rd_head {X : Type} {E : Elem X} {w : World} {xs : List X} {g c n : Nat} (h : Rd E w (.slice (some ⟨g, 0, none⟩) xs.length c) xs) (hn : n ≤ xs.length) : Rd E w (.slice (some ⟨g, 0, none⟩) n c) (xs.take n) := h.takeN hn
set_option maxHeartbeats 8000000 in
theorem turned_spec {w1 : World} (hk : Known w1) (r : ReqV) (y : RepV) {ds ps : List Int} {es : List EntV} (g c g1 c1 g2 c2 : Nat) (hdl : ds.length = r.dv.len) (hpl : ps.length = y.dv.len) (hll : es.length = y.lv.len) (sp : r.path.size ≤ 1048576) (sd : ds.length ≤ 1048576) (s1 : ps.length ≤ 1048576) (s2 : es.length ≤ 1048576) :
    SpecB Tryz.prog w1 27 [.agg ({ r with dv := ⟨some ⟨g, 0, none⟩, ds.length, c⟩ } : ReqV).cs, .slice (some ⟨g, 0, none⟩) (ds.length + 3) c, .agg ({ y with dv := ⟨some ⟨g1, 0, none⟩, ps.length, c1⟩, lv := ⟨some ⟨g2, 0, none⟩, es.length, c2⟩ } : RepV).cs, .slice (some ⟨g1, 0, none⟩) (ps.length + 3) c1, .slice (some ⟨g2, 0, none⟩) (es.length + 1) c2]
      [RowV byteE 5 (.slice (some ⟨g, 0, none⟩) (ds.length + 3) c) (ds ++ room3), RowV byteE 5 (.slice (some ⟨g1, 0, none⟩) (ps.length + 3) c1) (ps ++ room3), RowV entE 94 (.slice (some ⟨g2, 0, none⟩) (es.length + 1) c2) (es ++ [spareE])]
      (fun u M => u = .bool true ∧ M = []) := by
  refine specB_of Tryz.func27 rfl rfl (Nat.le_of_ble_eq_true rfl) (fun w F hB hF => ?_)
  have hkn : ∀ x L, St w F L x → Known x := fun x L h => hk.but (h.butB hB hF)
  obtain ⟨r0, hr0⟩ : ∃ r0, r0 = r := ⟨_, rfl⟩
  obtain ⟨y0, hy0⟩ : ∃ y0, y0 = y := ⟨_, rfl⟩
  rw [← hr0] at hdl sp
  rw [← hy0] at hpl hll
  obtain ⟨client, seq, ack, epoch, op, id, id2, off, len, path, name, name2, ⟨da, dn, dc⟩⟩ := r
  obtain ⟨pclient, pseq, pepoch, pop, status, aid, akind, asize, achange, ⟨pa, pn, pc⟩, ⟨la, ln, lc⟩, more⟩ := y
  dsimp only [ReqV.cs, RepV.cs, SlV.v]
  have lA : (ds ++ room3).length = ds.length + 3 := by rw [List.length_append]; rfl
  have lB : (ps ++ room3).length = ps.length + 3 := by rw [List.length_append]; rfl
  have lC : (es ++ [spareE]).length = es.length + 1 := by rw [List.length_append]; rfl
  obtain ⟨A, hA⟩ : ∃ A, ds ++ room3 = A := ⟨_, rfl⟩
  obtain ⟨B, hBB⟩ : ∃ A, ps ++ room3 = A := ⟨_, rfl⟩
  obtain ⟨Cc, hC⟩ : ∃ A, es ++ [spareE] = A := ⟨_, rfl⟩
  rw [hA] at lA ⊢
  rw [hBB] at lB ⊢
  rw [hC] at lC ⊢
  refine hc_rowV .head (fun e _ => by cases e) ?_
  rintro g' c' e
  injection e with e1 e2 e3
  injection e1 with e1
  injection e1 with e1
  subst e1 e3
  refine hc_rowV (.tail .head) (fun e _ => by cases e) ?_
  rintro g' c' e
  injection e with e1 e2 e3
  injection e1 with e1
  injection e1 with e1
  subst e1 e3
  refine hc_rowV (.tail (.tail .head)) (fun e _ => by cases e) ?_
  rintro g' c' e
  injection e with e1 e2 e3
  injection e1 with e1
  injection e1 with e1
  subst e1 e3
  refine hc_st (C' := St w F [Row byteE 5 g c A, Row byteE 5 g1 c1 B, Row entE 94 g2 c2 Cc]) (fun _ h => by (refine St.sub ?_ h; (with_reducible refine .cons (.tail (.tail .head)) ?_); (with_reducible refine .cons (.tail .head) ?_); (with_reducible refine .cons .head ?_); exact .nil)) ?_
  refine hc_know (φ := (A.length ≤ c ∧ c ≤ maxLen) ∧ B.length ≤ c1 ∧ c1 ≤ maxLen) (fun _ h => ⟨St.row_le h, St.row_le (h.perm (List.Perm.swap _ _ _))⟩) ?_
  rintro ⟨⟨ca, _⟩, cb, _⟩
  refine hc_know (φ := Cc.length ≤ c2 ∧ c2 ≤ maxLen) (fun x h => St.row_le (show St w F [Row entE 94 g2 c2 Cc] x by (refine St.sub ?_ h; (with_reducible refine .cons (.tail (.tail .head)) ?_); exact .nil))) ?_
  rintro ⟨cc, _⟩
  rw [lA] at ca
  rw [lB] at cb
  rw [lC] at cc
  (refine Zl rfl ?_; (refine h_box rfl rfl rfl rfl rfl rfl (fun _ => ?_)); refine hx_plain rfl ?_; (refine h_box rfl rfl rfl rfl rfl rfl (fun _ => ?_)); refine Zn rfl rfl rfl rfl rfl ?_; refine hc_seq ?_; refine Zl rfl ?_; refine h_assign rfl rfl rfl rfl ?_; refine Zt ?_; refine hc_block ?_)
  rename_i bq bp
  refine hc_cut (id := 0) (Y := List Int) (fun _ => [(3, .slice (some ⟨g1, 0, none⟩) (ps.length + 3) c1), (4, .slice (some ⟨g2, 0, none⟩) (es.length + 1) c2), (5, .pointer (some ⟨bq, 0, none⟩)), (7, .pointer (some ⟨bp, 0, none⟩))]) (fun L => [Row byteE 5 g c L, Row byteE 5 g1 c1 B, Row entE 94 g2 c2 Cc, Blk bq (.cells (⟨client, seq, ack, epoch, op, id, id2, off, len, path, name, name2, ⟨some ⟨g, 0, none⟩, ds.length, c⟩⟩ : ReqV).cs 24 (0, 0)), Blk bp (.cells (⟨pclient, pseq, pepoch, pop, status, aid, akind, asize, achange, ⟨some ⟨g1, 0, none⟩, ps.length, c1⟩, ⟨some ⟨g2, 0, none⟩, es.length, c2⟩, more⟩ : RepV).cs 30 (0, 0))]) (fun L => L.length = ds.length + 3) ?_ ?_
  · refine hc_loop (X := Nat × List Int) (fun x => [(1, .slice (some ⟨g, 0, none⟩) (ds.length + 3) c), (3, .slice (some ⟨g1, 0, none⟩) (ps.length + 3) c1), (4, .slice (some ⟨g2, 0, none⟩) (es.length + 1) c2), (5, .pointer (some ⟨bq, 0, none⟩)), (7, .pointer (some ⟨bp, 0, none⟩)), (11, .int .i64 (x.1 : Int))]) (fun x => [Row byteE 5 g c x.2, Row byteE 5 g1 c1 B, Row entE 94 g2 c2 Cc, Blk bq (.cells (⟨client, seq, ack, epoch, op, id, id2, off, len, path, name, name2, ⟨some ⟨g, 0, none⟩, ds.length, c⟩⟩ : ReqV).cs 24 (0, 0)), Blk bp (.cells (⟨pclient, pseq, pepoch, pop, status, aid, akind, asize, achange, ⟨some ⟨g1, 0, none⟩, ps.length, c1⟩, ⟨some ⟨g2, 0, none⟩, es.length, c2⟩, more⟩ : RepV).cs 30 (0, 0))]) (fun x => x.1 ≤ ds.length + 3 ∧ x.2.length = ds.length + 3) (fun x => ds.length + 3 - x.1) (0, A) (.cons rfl (.cons rfl (.cons rfl (.cons rfl (.cons rfl (.cons rfl .nil)))))) ⟨Nat.zero_le _, lA⟩ (fun _ h => by (refine St.sub ?_ h; (with_reducible refine .cons (.tail (.tail .head)) ?_); (with_reducible refine .cons (.tail (.tail .head)) ?_); (with_reducible refine .cons (.tail (.tail .head)) ?_); (with_reducible refine .cons (.tail .head) ?_); (with_reducible refine .cons .head ?_); exact .nil)) ?_
    rintro ⟨i, L⟩ ⟨hi, hL⟩
    dsimp only at hi hL ⊢
    by_cases hlt : i < ds.length + 3
    · obtain ⟨b, hb⟩ : ∃ b, L[i]? = some b := ⟨_, List.getElem?_eq_getElem (by omega)⟩
      have e1 : L[((i : Nat) : Int).toNat]? = some b := hb
      (refine hc_seq ?_; refine Zl rfl ?_; refine h_move rfl rfl rfl rfl ?_; refine Zm rfl rfl rfl rfl rfl ?_; refine hx_plain rfl ?_; refine h_len_slice rfl rfl rfl UC.out rfl rfl rfl ?_; refine Zc rfl rfl rfl rfl rfl rfl rfl ?_; refine Zt ?_; refine hc_condDT rfl (by omega) ?_; refine hc_skip ?_; refine hq_then ?_; refine hc_seq ?_; refine hc_block ?_; refine hc_lex ?_; (iterate 4 (refine Zm rfl rfl rfl rfl rfl ?_)); refine hx_plain rfl ?_; refine h_rowAddr rfl rfl rfl UC.out IC.size (by omega) (by omega) rfl rfl ?_; refine hx_plain rfl ?_; refine h_rowLoad1 rfl .head rfl UC.out rfl (by with_reducible assumption) rfl rfl rfl ?_; refine hx_plain rfl ?_; refine h_bits rfl rfl rfl rfl rfl rfl ?_; refine hx_plain rfl ?_; refine h_rowAddr rfl rfl rfl UC.out IC.size (by omega) (by omega) rfl rfl ?_; refine hx_plain rfl ?_)
      refine h_rowStoreN (i := i) (z := _) rfl rfl rfl .head rfl rfl rfl IC.size e1 rfl rfl ?_
      (refine hx_nil ?_; refine hq_norm_block ?_; refine hq_then ?_; refine hc_lex ?_; refine Zm rfl rfl rfl rfl rfl ?_; refine hx_plain rfl ?_; refine h_arithI rfl rfl rfl rfl (by omega) rfl rfl ?_; refine Za rfl rfl rfl rfl rfl ?_; refine hx_nil ?_)
      exact hq_round (i + 1, L.set i _) (by show ds.length + 3 - (i + 1) < ds.length + 3 - i; omega) ⟨by show i + 1 ≤ _; omega, by show (L.set _ _).length = _; rw [List.length_set]; exact hL⟩ (.cons rfl (.cons rfl (.cons rfl (.cons rfl (.cons rfl (.cons rfl .nil)))))) (fun _ h => h)
    · (refine hc_seq ?_; refine Zl rfl ?_; refine h_move rfl rfl rfl rfl ?_; refine Zm rfl rfl rfl rfl rfl ?_; refine hx_plain rfl ?_; refine h_len_slice rfl rfl rfl UC.out rfl rfl rfl ?_; refine Zc rfl rfl rfl rfl rfl rfl rfl ?_; refine Zt ?_; refine hc_condDF rfl (by omega) ?_; refine hc_exit ?_; (iterate 2 (refine hq_exit_then ?_)))
      exact hq_cut L hL (.cons rfl (.cons rfl (.cons rfl (.cons rfl .nil)))) (fun _ h => h)
  clear hA lA
  rintro L1 hL1
  (refine hq_exit_block ?_; refine hq_then ?_; refine hc_seq ?_; refine Zl rfl ?_; refine h_assign rfl rfl rfl rfl ?_; refine Zt ?_; refine hc_block ?_)
  refine hc_cut (id := 2) (Y := List Int) (fun _ => [(4, .slice (some ⟨g2, 0, none⟩) (es.length + 1) c2), (5, .pointer (some ⟨bq, 0, none⟩)), (7, .pointer (some ⟨bp, 0, none⟩))]) (fun L => [Row byteE 5 g c L1, Row byteE 5 g1 c1 L, Row entE 94 g2 c2 Cc, Blk bq (.cells (⟨client, seq, ack, epoch, op, id, id2, off, len, path, name, name2, ⟨some ⟨g, 0, none⟩, ds.length, c⟩⟩ : ReqV).cs 24 (0, 0)), Blk bp (.cells (⟨pclient, pseq, pepoch, pop, status, aid, akind, asize, achange, ⟨some ⟨g1, 0, none⟩, ps.length, c1⟩, ⟨some ⟨g2, 0, none⟩, es.length, c2⟩, more⟩ : RepV).cs 30 (0, 0))]) (fun L => L.length = ps.length + 3) ?_ ?_
  · refine hc_loop (X := Nat × List Int) (fun x => [(3, .slice (some ⟨g1, 0, none⟩) (ps.length + 3) c1), (4, .slice (some ⟨g2, 0, none⟩) (es.length + 1) c2), (5, .pointer (some ⟨bq, 0, none⟩)), (7, .pointer (some ⟨bp, 0, none⟩)), (12, .int .i64 (x.1 : Int))]) (fun x => [Row byteE 5 g1 c1 x.2, Row byteE 5 g c L1, Row entE 94 g2 c2 Cc, Blk bq (.cells (⟨client, seq, ack, epoch, op, id, id2, off, len, path, name, name2, ⟨some ⟨g, 0, none⟩, ds.length, c⟩⟩ : ReqV).cs 24 (0, 0)), Blk bp (.cells (⟨pclient, pseq, pepoch, pop, status, aid, akind, asize, achange, ⟨some ⟨g1, 0, none⟩, ps.length, c1⟩, ⟨some ⟨g2, 0, none⟩, es.length, c2⟩, more⟩ : RepV).cs 30 (0, 0))]) (fun x => x.1 ≤ ps.length + 3 ∧ x.2.length = ps.length + 3) (fun x => ps.length + 3 - x.1) (0, B) (.cons rfl (.cons rfl (.cons rfl (.cons rfl (.cons rfl .nil))))) ⟨Nat.zero_le _, lB⟩ (fun _ h => by (refine St.sub ?_ h; (with_reducible refine .cons (.tail .head) ?_); (with_reducible refine .cons .head ?_); (with_reducible refine .cons .head ?_); (with_reducible refine .cons .head ?_); (with_reducible refine .cons .head ?_); exact .nil)) ?_
    rintro ⟨i, L⟩ ⟨hi, hL⟩
    dsimp only at hi hL ⊢
    by_cases hlt : i < ps.length + 3
    · obtain ⟨b, hb⟩ : ∃ b, L[i]? = some b := ⟨_, List.getElem?_eq_getElem (by omega)⟩
      have e1 : L[((i : Nat) : Int).toNat]? = some b := hb
      (refine hc_seq ?_; refine Zl rfl ?_; refine h_move rfl rfl rfl rfl ?_; refine Zm rfl rfl rfl rfl rfl ?_; refine hx_plain rfl ?_; refine h_len_slice rfl rfl rfl UC.out rfl rfl rfl ?_; refine Zc rfl rfl rfl rfl rfl rfl rfl ?_; refine Zt ?_; refine hc_condDT rfl (by omega) ?_; refine hc_skip ?_; refine hq_then ?_; refine hc_seq ?_; refine hc_block ?_; refine hc_lex ?_; (iterate 4 (refine Zm rfl rfl rfl rfl rfl ?_)); refine hx_plain rfl ?_; refine h_rowAddr rfl rfl rfl UC.out IC.size (by omega) (by omega) rfl rfl ?_; refine hx_plain rfl ?_; refine h_rowLoad1 rfl .head rfl UC.out rfl (by with_reducible assumption) rfl rfl rfl ?_; refine hx_plain rfl ?_; refine h_bits rfl rfl rfl rfl rfl rfl ?_; refine hx_plain rfl ?_; refine h_rowAddr rfl rfl rfl UC.out IC.size (by omega) (by omega) rfl rfl ?_; refine hx_plain rfl ?_)
      refine h_rowStoreN (i := i) (z := _) rfl rfl rfl .head rfl rfl rfl IC.size e1 rfl rfl ?_
      (refine hx_nil ?_; refine hq_norm_block ?_; refine hq_then ?_; refine hc_lex ?_; refine Zm rfl rfl rfl rfl rfl ?_; refine hx_plain rfl ?_; refine h_arithI rfl rfl rfl rfl (by omega) rfl rfl ?_; refine Za rfl rfl rfl rfl rfl ?_; refine hx_nil ?_)
      exact hq_round (i + 1, L.set i _) (by show ps.length + 3 - (i + 1) < ps.length + 3 - i; omega) ⟨by show i + 1 ≤ _; omega, by show (L.set _ _).length = _; rw [List.length_set]; exact hL⟩ (.cons rfl (.cons rfl (.cons rfl (.cons rfl (.cons rfl .nil))))) (fun _ h => h)
    · (refine hc_seq ?_; refine Zl rfl ?_; refine h_move rfl rfl rfl rfl ?_; refine Zm rfl rfl rfl rfl rfl ?_; refine hx_plain rfl ?_; refine h_len_slice rfl rfl rfl UC.out rfl rfl rfl ?_; refine Zc rfl rfl rfl rfl rfl rfl rfl ?_; refine Zt ?_; refine hc_condDF rfl (by omega) ?_; refine hc_exit ?_; (iterate 2 (refine hq_exit_then ?_)))
      exact hq_cut L hL (.cons rfl (.cons rfl (.cons rfl .nil))) (fun _ h => by (refine St.sub ?_ h; (with_reducible refine .cons (.tail .head) ?_); (with_reducible refine .cons .head ?_); (with_reducible refine .cons .head ?_); (with_reducible refine .cons .head ?_); (with_reducible refine .cons .head ?_); exact .nil))
  clear hBB lB
  rintro L2 hL2
  (refine hq_exit_block ?_; refine hq_then ?_; refine hc_seq ?_; refine Zl rfl ?_; refine h_assign rfl rfl rfl rfl ?_; refine Zt ?_; refine hc_block ?_)
  refine hc_cut (id := 4) (Y := List EntV) (fun _ => [(5, .pointer (some ⟨bq, 0, none⟩)), (7, .pointer (some ⟨bp, 0, none⟩))]) (fun L => [Row byteE 5 g c L1, Row byteE 5 g1 c1 L2, Row entE 94 g2 c2 L, Blk bq (.cells (⟨client, seq, ack, epoch, op, id, id2, off, len, path, name, name2, ⟨some ⟨g, 0, none⟩, ds.length, c⟩⟩ : ReqV).cs 24 (0, 0)), Blk bp (.cells (⟨pclient, pseq, pepoch, pop, status, aid, akind, asize, achange, ⟨some ⟨g1, 0, none⟩, ps.length, c1⟩, ⟨some ⟨g2, 0, none⟩, es.length, c2⟩, more⟩ : RepV).cs 30 (0, 0))]) (fun L => L.length = es.length + 1) ?_ ?_
  · refine hc_loop (X := Nat × List EntV) (fun x => [(4, .slice (some ⟨g2, 0, none⟩) (es.length + 1) c2), (5, .pointer (some ⟨bq, 0, none⟩)), (7, .pointer (some ⟨bp, 0, none⟩)), (13, .int .i64 (x.1 : Int))]) (fun x => [Row entE 94 g2 c2 x.2, Row byteE 5 g1 c1 L2, Row byteE 5 g c L1, Blk bq (.cells (⟨client, seq, ack, epoch, op, id, id2, off, len, path, name, name2, ⟨some ⟨g, 0, none⟩, ds.length, c⟩⟩ : ReqV).cs 24 (0, 0)), Blk bp (.cells (⟨pclient, pseq, pepoch, pop, status, aid, akind, asize, achange, ⟨some ⟨g1, 0, none⟩, ps.length, c1⟩, ⟨some ⟨g2, 0, none⟩, es.length, c2⟩, more⟩ : RepV).cs 30 (0, 0))]) (fun x => x.1 ≤ es.length + 1 ∧ x.2.length = es.length + 1) (fun x => es.length + 1 - x.1) (0, Cc) (.cons rfl (.cons rfl (.cons rfl (.cons rfl .nil)))) ⟨Nat.zero_le _, lC⟩ (fun _ h => by (refine St.sub ?_ h; (with_reducible refine .cons (.tail (.tail .head)) ?_); (with_reducible refine .cons (.tail .head) ?_); (with_reducible refine .cons .head ?_); (with_reducible refine .cons .head ?_); (with_reducible refine .cons .head ?_); exact .nil)) ?_
    rintro ⟨i, L⟩ ⟨hi, hL⟩
    dsimp only at hi hL ⊢
    by_cases hlt : i < es.length + 1
    · obtain ⟨⟨nm, eid, kd⟩, hb⟩ : ∃ b, L[i]? = some b := ⟨_, List.getElem?_eq_getElem (by omega)⟩
      have e1 : L[((i : Nat) : Int).toNat]? = some ⟨nm, eid, kd⟩ := hb
      (refine hc_seq ?_; refine Zl rfl ?_; refine h_move rfl rfl rfl rfl ?_; refine Zm rfl rfl rfl rfl rfl ?_; refine hx_plain rfl ?_; refine h_len_slice rfl rfl rfl UC.out rfl rfl rfl ?_; refine Zc rfl rfl rfl rfl rfl rfl rfl ?_; refine Zt ?_; refine hc_condDT rfl (by omega) ?_; refine hc_skip ?_; refine hq_then ?_; refine hc_seq ?_; refine hc_block ?_; refine hc_lex ?_; (iterate 4 (refine Zm rfl rfl rfl rfl rfl ?_)); refine hx_plain rfl ?_; refine h_rowAddr rfl rfl rfl UC.out IC.size (by omega) (by omega) rfl rfl ?_; refine hx_plain rfl ?_; refine h_fieldAddr rfl rfl FC.out rfl rfl ?_; refine hx_plain rfl ?_; refine h_rowLoad rfl .head rfl UC.out rfl (by with_reducible assumption) rfl rfl rfl ?_; refine hx_plain rfl ?_; refine h_arith rfl rfl rfl rfl rfl rfl ?_; refine hx_plain rfl ?_; refine h_rowAddr rfl rfl rfl UC.out IC.size (by omega) (by omega) rfl rfl ?_; refine hx_plain rfl ?_; refine h_fieldAddr rfl rfl FC.out rfl rfl ?_; refine hx_plain rfl ?_)
      refine h_rowStore (i := i) (off := 2) (q := ⟨nm, eid, kd⟩) (z := ⟨nm, eid, IntKind.i64.wrap (3 - kd)⟩) rfl rfl rfl .head rfl rfl rfl IC.size hb rfl rfl (by decide) rfl ?_
      (refine hx_nil ?_; refine hq_norm_block ?_; refine hq_then ?_; refine hc_lex ?_; refine Zm rfl rfl rfl rfl rfl ?_; refine hx_plain rfl ?_; refine h_arithI rfl rfl rfl rfl (by omega) rfl rfl ?_; refine Za rfl rfl rfl rfl rfl ?_; refine hx_nil ?_)
      exact hq_round (i + 1, L.set i ⟨nm, eid, IntKind.i64.wrap (3 - kd)⟩) (by show es.length + 1 - (i + 1) < es.length + 1 - i; omega) ⟨by show i + 1 ≤ _; omega, by show (L.set _ _).length = _; rw [List.length_set]; exact hL⟩ (.cons rfl (.cons rfl (.cons rfl (.cons rfl .nil)))) (fun _ h => h)
    · (refine hc_seq ?_; refine Zl rfl ?_; refine h_move rfl rfl rfl rfl ?_; refine Zm rfl rfl rfl rfl rfl ?_; refine hx_plain rfl ?_; refine h_len_slice rfl rfl rfl UC.out rfl rfl rfl ?_; refine Zc rfl rfl rfl rfl rfl rfl rfl ?_; refine Zt ?_; refine hc_condDF rfl (by omega) ?_; refine hc_exit ?_; (iterate 2 (refine hq_exit_then ?_)))
      exact hq_cut L hL (.cons rfl (.cons rfl .nil)) (fun _ h => by (refine St.sub ?_ h; (with_reducible refine .cons (.tail (.tail .head)) ?_); (with_reducible refine .cons (.tail .head) ?_); (with_reducible refine .cons .head ?_); (with_reducible refine .cons .head ?_); (with_reducible refine .cons .head ?_); exact .nil))
  clear hC lC
  rintro L3 hL3
  have hT1 : (L1.take ds.length).length = ds.length := by rw [List.length_take]; omega
  have hT2 : (L2.take ps.length).length = ps.length := by rw [List.length_take]; omega
  have hT3 : (L3.take es.length).length = es.length := by rw [List.length_take]; omega
  (refine hq_exit_block ?_; refine hq_then ?_)
  refine hc_st (C' := St w F [RowV byteE 5 (.slice (some ⟨g, 0, none⟩) L1.length c) L1, RowV byteE 5 (.slice (some ⟨g1, 0, none⟩) L2.length c1) L2, RowV entE 94 (.slice (some ⟨g2, 0, none⟩) L3.length c2) L3, Blk bq (.cells (⟨client, seq, ack, epoch, op, id, id2, off, len, path, name, name2, ⟨some ⟨g, 0, none⟩, ds.length, c⟩⟩ : ReqV).cs 24 (0, 0)), Blk bp (.cells (⟨pclient, pseq, pepoch, pop, status, aid, akind, asize, achange, ⟨some ⟨g1, 0, none⟩, ps.length, c1⟩, ⟨some ⟨g2, 0, none⟩, es.length, c2⟩, more⟩ : RepV).cs 30 (0, 0))]) (fun _ h => ?_) ?_
  · have h1 := (St.rowV_mk h).sub (.cons (.tail .head) (.cons .head (.cons .head (.cons .head (.cons .head .nil)))))
    have h2 := (St.rowV_mk h1).sub (.cons (.tail (.tail .head)) (.cons (.tail .head) (.cons .head (.cons .head (.cons .head .nil)))))
    exact (St.rowV_mk h2).sub (.cons (.tail .head) (.cons (.tail .head) (.cons .head (.cons .head (.cons .head .nil)))))
  obtain ⟨D1, hD1⟩ : ∃ D, L1.take ds.length = D := ⟨_, rfl⟩
  obtain ⟨D2, hD2⟩ : ∃ D, L2.take ps.length = D := ⟨_, rfl⟩
  obtain ⟨D3, hD3⟩ : ∃ D, L3.take es.length = D := ⟨_, rfl⟩
  rw [hD1] at hT1
  rw [hD2] at hT2
  rw [hD3] at hT3
  have rd1 : ∀ x, Rd byteE x (.slice (some ⟨g, 0, none⟩) L1.length c) L1 → Rd byteE x (.slice (some ⟨g, 0, none⟩) ds.length c) D1 := fun x h => by rw [← hD1]; exact rd_head h (by omega)
  have rd2 : ∀ x, Rd byteE x (.slice (some ⟨g1, 0, none⟩) L2.length c1) L2 → Rd byteE x (.slice (some ⟨g1, 0, none⟩) ps.length c1) D2 := fun x h => by rw [← hD2]; exact rd_head h (by omega)
  have rd3 : ∀ x, Rd entE x (.slice (some ⟨g2, 0, none⟩) L3.length c2) L3 → Rd entE x (.slice (some ⟨g2, 0, none⟩) es.length c2) D3 := fun x h => by rw [← hD3]; exact rd_head h (by omega)
  (refine Zl rfl ?_)
  refine h_loadP (cs' := (⟨client, seq, ack, epoch, op, id, id2, off, len, path, name, name2, ⟨some ⟨g, 0, none⟩, ds.length, c⟩⟩ : ReqV).cs) rfl rfl UC.out rfl IC.size (.tail (.tail (.tail .head))) rfl (by kernel_rfl) rfl rfl ?_
  (refine hx_plain rfl ?_; (refine h_alloc rfl rfl IC.zero rfl rfl rfl (fun _ => ?_)); refine hx_plain rfl ?_; refine h_storeAll rfl rfl rfl rfl rfl rfl IC.size .head rfl rfl rfl (List.all_eq_true.1 rfl) ?_; refine Zt ?_; refine Zl rfl ?_; refine h_fieldAddr0 rfl rfl FC.out rfl rfl ?_; refine hx_plain rfl ?_; refine h_load rfl rfl UC.out rfl (.tail (.tail (.tail (.tail .head)))) rfl rfl rfl ?_; refine hx_plain rfl ?_)
  refine h_callW (post := BytP D1) rfl rfl rfl rfl rfl rfl rfl rfl EC.out (fun w' h => bytes_lit (rd1 w' (h.rdRowV (.tail .head))) (by omega)) ?_
  rintro u M ⟨a3, c3, rfl, rfl⟩
  (refine Zf rfl rfl rfl rfl rfl ?_; refine hx_plain rfl ?_; refine h_store rfl rfl rfl rfl rfl rfl IC.size (.tail .head) rfl rfl (Nat.le_of_ble_eq_true rfl) (List.all_eq_true.1 rfl) ?_; refine Zt ?_; refine Zl rfl ?_)
  refine h_loadP (cs' := (⟨pclient, pseq, pepoch, pop, status, aid, akind, asize, achange, ⟨some ⟨g1, 0, none⟩, ps.length, c1⟩, ⟨some ⟨g2, 0, none⟩, es.length, c2⟩, more⟩ : RepV).cs) rfl rfl UC.out rfl IC.size (.tail (.tail (.tail (.tail (.tail (.tail .head)))))) rfl (by kernel_rfl) rfl rfl ?_
  (refine hx_plain rfl ?_; (refine h_alloc rfl rfl IC.zero rfl rfl rfl (fun _ => ?_)); refine hx_plain rfl ?_; refine h_storeAll rfl rfl rfl rfl rfl rfl IC.size .head rfl rfl rfl (List.all_eq_true.1 rfl) ?_; refine Zt ?_; refine Zl rfl ?_; refine h_fieldAddr0 rfl rfl FC.out rfl rfl ?_; refine hx_plain rfl ?_; refine h_load rfl rfl UC.out rfl (.tail (.tail (.tail (.tail (.tail (.tail (.tail .head))))))) rfl rfl rfl ?_; refine hx_plain rfl ?_)
  refine h_callW (post := BytP D2) rfl rfl rfl rfl rfl rfl rfl rfl EC.out (fun w' h => bytes_lit (rd2 w' (h.rdRowV (.tail (.tail (.tail (.tail .head)))))) (by omega)) ?_
  rintro u M ⟨a4, c4, rfl, rfl⟩
  (refine Zf rfl rfl rfl rfl rfl ?_; refine hx_plain rfl ?_; refine h_store rfl rfl rfl rfl rfl rfl IC.size (.tail .head) rfl rfl (Nat.le_of_ble_eq_true rfl) (List.all_eq_true.1 rfl) ?_; refine Zt ?_; refine Zl rfl ?_)
  refine h_loadP (cs' := (⟨client, seq, ack, epoch, op, id, id2, off, len, path, name, name2, ⟨some ⟨g, 0, none⟩, ds.length, c⟩⟩ : ReqV).cs) rfl rfl UC.out rfl IC.size (.tail (.tail (.tail (.tail (.tail (.tail (.tail .head))))))) rfl (by kernel_rfl) rfl rfl ?_
  (refine hx_plain rfl ?_)
  refine h_callW (post := EncP (encReq r0 D1) r0.chk) rfl rfl rfl rfl rfl rfl rfl rfl EC.out (fun w' h => by
    have := encQ_makes (hkn _ _ h) { r0 with dv := ⟨some ⟨g, 0, none⟩, ds.length, c⟩ } (rd1 w' (h.rdRowV (.tail (.tail (.tail (.tail .head))))))
    rw [encReq_dv r0 ⟨some ⟨g, 0, none⟩, ds.length, c⟩ hdl, r0.chk_dv ⟨some ⟨g, 0, none⟩, ds.length, c⟩ hdl] at this
    rw [hr0] at this ⊢
    exact this) ?_
  rintro u M ⟨a5, c5, rfl, rfl⟩
  (refine Zm rfl rfl rfl rfl rfl ?_; (iterate 2 (refine hx_plain rfl ?_; refine h_extract rfl rfl rfl rfl rfl ?_)); refine Za rfl rfl rfl rfl rfl ?_; refine Zn rfl rfl rfl rfl rfl ?_; refine Zl rfl ?_)
  refine h_loadP (cs' := (⟨client, seq, ack, epoch, op, id, id2, off, len, path, name, name2, ⟨a3, D1.length, c3⟩⟩ : ReqV).cs) rfl rfl UC.out rfl IC.size (.tail (.tail (.tail .head))) rfl (by kernel_rfl) rfl rfl ?_
  (refine hx_plain rfl ?_)
  refine h_callW (post := EncP (encReq r0 D1) r0.chk) rfl rfl rfl rfl rfl rfl rfl rfl EC.out (fun w' h => by
    have := EncP.of (rencodeRequest_makes (w := w') { r0 with dv := ⟨a3, D1.length, c3⟩ } sp (h.rdRowV (xs := D1) (.tail (.tail (.tail (.tail .head))))))
    rw [encReq_dv r0 ⟨a3, D1.length, c3⟩ (hT1.trans hdl), r0.chk_dv ⟨a3, D1.length, c3⟩ (hT1.trans hdl)] at this
    rw [hr0] at this ⊢
    exact this) ?_
  obtain ⟨eq, heq⟩ : ∃ l, encReq r0 D1 = l := ⟨_, rfl⟩
  obtain ⟨ck, hck⟩ : ∃ c, r0.chk = c := ⟨_, rfl⟩
  rw [heq, hck]
  rintro u M ⟨a6, c6, rfl, rfl⟩
  (refine Zm rfl rfl rfl rfl rfl ?_; (iterate 2 (refine hx_plain rfl ?_; refine h_extract rfl rfl rfl rfl rfl ?_)); refine Za rfl rfl rfl rfl rfl ?_; refine Zn rfl rfl rfl rfl rfl ?_; refine Zl rfl ?_; refine h_move rfl rfl rfl rfl ?_; refine Zm rfl rfl rfl rfl rfl ?_; refine hx_plain rfl ?_)
  refine h_callRd rfl rfl rfl rfl rfl rfl EC.out (fun w' h => sameBytes (h.rdRowV (xs := eq) (.tail .head)) (h.rdRowV (xs := eq) .head)) ?_
  rw [decide_eq_true rfl]
  (refine Zn rfl rfl rfl rfl rfl ?_)
  rename_i b14 b15
  refine hc_st (C' := St w F [Blk b15 (.cells (⟨pclient, pseq, pepoch, pop, status, aid, akind, asize, achange, ⟨a4, D2.length, c4⟩, ⟨some ⟨g2, 0, none⟩, es.length, c2⟩, more⟩ : RepV).cs 30 (0, 0)), RowV byteE 5 (.slice a4 D2.length c4) D2, RowV byteE 5 (.slice (some ⟨g1, 0, none⟩) L2.length c1) L2, RowV entE 94 (.slice (some ⟨g2, 0, none⟩) L3.length c2) L3, Blk bp (.cells (⟨pclient, pseq, pepoch, pop, status, aid, akind, asize, achange, ⟨some ⟨g1, 0, none⟩, ps.length, c1⟩, ⟨some ⟨g2, 0, none⟩, es.length, c2⟩, more⟩ : RepV).cs 30 (0, 0))]) (fun _ h => by (refine St.sub ?_ h; refine .cons (.tail (.tail .head)) ?_; (with_reducible refine .cons (.tail (.tail .head)) ?_); (with_reducible refine .cons (.tail (.tail (.tail (.tail (.tail .head))))) ?_); (with_reducible refine .cons (.tail (.tail (.tail (.tail (.tail .head))))) ?_); (with_reducible refine .cons (.tail (.tail (.tail (.tail (.tail (.tail .head)))))) ?_); exact .nil)) ?_
  (refine hc_seq ?_; refine Zl rfl ?_; refine h_move rfl rfl rfl rfl ?_; refine hx_plain rfl ?_; refine h_not rfl rfl rfl rfl ?_; refine Zm rfl rfl rfl rfl rfl ?_; refine hx_yes rfl rfl rfl ?_; refine h_move rfl rfl rfl rfl ?_; refine hx_yes rfl rfl rfl ?_)
  refine h_callR rfl rfl rfl rfl rfl rfl EC.out ((lnum_spec ck).reads _) ?_
  (refine hx_yes rfl rfl rfl ?_; refine h_move rfl rfl rfl rfl ?_; refine hx_yes rfl rfl rfl ?_; refine h_cmp rfl rfl rfl rfl rfl rfl ?_; refine Zp rfl rfl rfl rfl rfl rfl ?_; refine Zt ?_; refine hc_condDF rfl (by omega) ?_; refine hc_skip ?_; refine hq_then ?_; refine Zl rfl ?_)
  refine h_loadP (cs' := (⟨pclient, pseq, pepoch, pop, status, aid, akind, asize, achange, ⟨some ⟨g1, 0, none⟩, ps.length, c1⟩, ⟨some ⟨g2, 0, none⟩, es.length, c2⟩, more⟩ : RepV).cs) rfl rfl UC.out rfl IC.size (.tail (.tail (.tail (.tail .head)))) rfl (by kernel_rfl) rfl rfl ?_
  (refine hx_plain rfl ?_)
  refine h_callW (post := EncP (encRep y0 D2 D3) (y0.chk D3)) rfl rfl rfl rfl rfl rfl rfl rfl EC.out (fun w' h => by
    have := encP_makes (hkn _ _ h) { y0 with dv := ⟨some ⟨g1, 0, none⟩, ps.length, c1⟩, lv := ⟨some ⟨g2, 0, none⟩, es.length, c2⟩ } (rd2 w' (h.rdRowV (.tail (.tail .head)))) (rd3 w' (h.rdRowV (.tail (.tail (.tail .head)))))
    rw [encRep_dv y0 ⟨some ⟨g1, 0, none⟩, ps.length, c1⟩ ⟨some ⟨g2, 0, none⟩, es.length, c2⟩ hpl hll, y0.chk_dv D3 ⟨some ⟨g1, 0, none⟩, ps.length, c1⟩ ⟨some ⟨g2, 0, none⟩, es.length, c2⟩ hpl hll] at this
    rw [hy0] at this ⊢
    exact this) ?_
  rintro u M ⟨a7, c7, rfl, rfl⟩
  (refine Zm rfl rfl rfl rfl rfl ?_; (iterate 2 (refine hx_plain rfl ?_; refine h_extract rfl rfl rfl rfl rfl ?_)); refine Za rfl rfl rfl rfl rfl ?_; refine Zn rfl rfl rfl rfl rfl ?_; refine Zl rfl ?_)
  refine h_loadP (cs' := (⟨pclient, pseq, pepoch, pop, status, aid, akind, asize, achange, ⟨a4, D2.length, c4⟩, ⟨some ⟨g2, 0, none⟩, es.length, c2⟩, more⟩ : RepV).cs) rfl rfl UC.out rfl IC.size (.tail .head) rfl (by kernel_rfl) rfl rfl ?_
  (refine hx_plain rfl ?_)
  refine h_callW (post := EncP (encRep y0 D2 D3) (y0.chk D3)) rfl rfl rfl rfl rfl rfl rfl rfl EC.out (fun w' h => by
    have := EncP.of (rencodeReply_makes (w := w') { y0 with dv := ⟨a4, D2.length, c4⟩, lv := ⟨some ⟨g2, 0, none⟩, es.length, c2⟩ } (h.rdRowV (xs := D2) (.tail (.tail .head))) (rd3 w' (h.rdRowV (.tail (.tail (.tail (.tail .head)))))))
    rw [encRep_dv y0 ⟨a4, D2.length, c4⟩ ⟨some ⟨g2, 0, none⟩, es.length, c2⟩ (hT2.trans hpl) hll, y0.chk_dv D3 ⟨a4, D2.length, c4⟩ ⟨some ⟨g2, 0, none⟩, es.length, c2⟩ (hT2.trans hpl) hll] at this
    rw [hy0] at this ⊢
    exact this) ?_
  obtain ⟨ep, hep⟩ : ∃ l, encRep y0 D2 D3 = l := ⟨_, rfl⟩
  obtain ⟨ck2, hck2⟩ : ∃ c, y0.chk D3 = c := ⟨_, rfl⟩
  rw [hep, hck2]
  rintro u M ⟨a8, c8, rfl, rfl⟩
  (refine Zm rfl rfl rfl rfl rfl ?_; (iterate 2 (refine hx_plain rfl ?_; refine h_extract rfl rfl rfl rfl rfl ?_)); refine Za rfl rfl rfl rfl rfl ?_; refine Zn rfl rfl rfl rfl rfl ?_; refine Zl rfl ?_; refine h_move rfl rfl rfl rfl ?_; refine Zm rfl rfl rfl rfl rfl ?_; refine hx_plain rfl ?_)
  refine h_callRd rfl rfl rfl rfl rfl rfl EC.out (fun w' h => sameBytes (h.rdRowV (xs := ep) (.tail .head)) (h.rdRowV (xs := ep) .head)) ?_
  rw [decide_eq_true rfl]
  (refine Zn rfl rfl rfl rfl rfl ?_; refine Zl rfl ?_; refine h_move rfl rfl rfl rfl ?_; refine Zm rfl rfl rfl rfl rfl ?_; refine hx_yes rfl rfl rfl ?_; refine h_move rfl rfl rfl rfl ?_; refine hx_yes rfl rfl rfl ?_)
  refine h_callR rfl rfl rfl rfl rfl rfl EC.out ((lnum_spec ck2).reads _) ?_
  (refine hx_yes rfl rfl rfl ?_; refine h_move rfl rfl rfl rfl ?_; refine hx_yes rfl rfl rfl ?_; refine h_cmp rfl rfl rfl rfl rfl rfl ?_; refine Zq rfl rfl rfl rfl rfl rfl ?_; refine Zn rfl rfl rfl rfl rfl ?_; refine hc_ret ?_)
  exact hq_ret1 (.inr rfl) rfl rfl ⟨by rw [decide_eq_true rfl], rfl⟩ (fun _ h => h.emp)
set_option maxHeartbeats 8000000 in
theorem encodes_law {w : World} (hk : Known w) (r : ReqV) (y : RepV) {ds ps : List Int} {es : List EntV} (hd : Rd byteE w r.dv.v ds) (hp : Rd byteE w y.dv.v ps) (hl : Rd entE w y.lv.v es) (sp : r.path.size ≤ 1048576) (sd : ds.length ≤ 1048576) (s1 : ps.length ≤ 1048576) (s2 : es.length ≤ 1048576) :
    Calls Tryz.prog 4 [Value.agg r.cs, Value.agg y.cs].toArray w (fun en w' => en = .returned (.bool true) ∧ But w w' nowhere) := by
  obtain ⟨r0, hr0⟩ : ∃ r0, r0 = r := ⟨_, rfl⟩
  obtain ⟨y0, hy0⟩ : ∃ y0, y0 = y := ⟨_, rfl⟩
  rw [← hr0] at hd sp
  rw [← hy0] at hp hl
  have hdl : ds.length = r0.dv.len := rd_lenS hd
  have hpl : ps.length = y0.dv.len := rd_lenS hp
  have hll : es.length = y0.lv.len := rd_lenS hl
  obtain ⟨client, seq, ack, epoch, op, id, id2, off, len, path, name, name2, ⟨da, dn, dc⟩⟩ := r
  obtain ⟨pclient, pseq, pepoch, pop, status, aid, akind, asize, achange, ⟨pa, pn, pc⟩, ⟨la, ln, lc⟩, more⟩ := y
  dsimp only [ReqV.cs, RepV.cs, SlV.v]
  refine reads_of Tryz.func4 rfl rfl (Nat.le_of_ble_eq_true rfl) ?_
  (refine Zl rfl ?_; (refine h_box rfl rfl rfl rfl rfl rfl (fun _ => ?_)); refine hx_plain rfl ?_; (refine h_box rfl rfl rfl rfl rfl rfl (fun _ => ?_)); refine Zn rfl rfl rfl rfl rfl ?_; refine Zl rfl ?_)
  refine h_callRd rfl rfl rfl rfl rfl rfl EC.out (fun w' h => head_reads (hk.but h.but)) ?_
  (refine Zn rfl rfl rfl rfl rfl ?_; refine hc_seq ?_; refine Zl rfl ?_; refine h_move rfl rfl rfl rfl ?_; refine hx_plain rfl ?_; refine h_not rfl rfl rfl rfl ?_; refine Zt ?_; refine hc_condF rfl ?_; refine hc_skip ?_; refine hq_then ?_; refine Zl rfl ?_)
  rename_i bq bp'
  refine h_loadP (cs' := #[.int .i64 client, .int .i64 seq, .int .i64 ack, .int .i64 epoch, .int .i64 op, .int .i64 id, .int .i64 id2, .int .i64 off, .int .i64 len, .string path, .string name, .string name2, .slice da dn dc]) rfl rfl UC.out rfl IC.size (.tail .head) rfl (by kernel_rfl) rfl rfl ?_
  (refine hx_plain rfl ?_)
  refine h_callW (post := AskP r0 ds) rfl rfl rfl rfl rfl rfl rfl rfl EC.out (fun w' h => by have := asked_makes r0 (hd.but h.but) sd; rw [hr0] at this ⊢; exact this) ?_
  rintro u M ⟨g, c, rfl, hc3, rfl⟩
  rw [hr0]
  dsimp only [ReqV.cs, SlV.v]
  (refine Zm rfl rfl rfl rfl rfl ?_; (iterate 2 (refine hx_plain rfl ?_; refine h_extract rfl rfl rfl rfl rfl ?_)); refine hx_plain rfl ?_; (refine h_alloc rfl rfl IC.zero rfl rfl rfl (fun _ => ?_)); refine hx_plain rfl ?_; refine h_storeAll rfl rfl rfl rfl rfl rfl IC.size .head rfl rfl rfl (List.all_eq_true.1 rfl) ?_; refine Zn rfl rfl rfl rfl rfl ?_; refine Zl rfl ?_)
  rename_i bQ2
  refine h_loadP (cs' := (⟨client, seq, ack, epoch, op, id, id2, off, len, path, name, name2, ⟨some ⟨g, 0, none⟩, ds.length, c⟩⟩ : ReqV).cs) rfl rfl UC.out rfl IC.size .head rfl (by kernel_rfl) rfl rfl ?_
  (refine hx_plain rfl ?_)
  have hl3 : (ds ++ room3).length = ds.length + 3 := by rw [List.length_append]; rfl
  refine h_callW (post := EncP (encReq r0 ds) r0.chk) rfl rfl rfl rfl rfl rfl rfl rfl EC.out (fun w' h => by
    have hrd := h.rdRowV (xs := ds ++ room3) (.tail .head)
    rw [← hl3] at hrd
    have := encQ_makes (hk.but h.but) { r0 with dv := ⟨some ⟨g, 0, none⟩, ds.length, c⟩ } (rd_full hrd rfl)
    rw [encReq_dv r0 ⟨some ⟨g, 0, none⟩, ds.length, c⟩ hdl, r0.chk_dv ⟨some ⟨g, 0, none⟩, ds.length, c⟩ hdl] at this
    rw [hr0] at this ⊢
    exact this) ?_
  rintro u M ⟨a5, c5, rfl, rfl⟩
  (refine Zm rfl rfl rfl rfl rfl ?_; (iterate 2 (refine hx_plain rfl ?_; refine h_extract rfl rfl rfl rfl rfl ?_)); refine Za rfl rfl rfl rfl rfl ?_; refine Zn rfl rfl rfl rfl rfl ?_; refine Zl rfl ?_)
  refine h_loadP (cs' := #[.int .i64 client, .int .i64 seq, .int .i64 ack, .int .i64 epoch, .int .i64 op, .int .i64 id, .int .i64 id2, .int .i64 off, .int .i64 len, .string path, .string name, .string name2, .slice da dn dc]) rfl rfl UC.out rfl IC.size (.tail (.tail (.tail (.tail .head)))) rfl (by kernel_rfl) rfl rfl ?_
  (refine hx_plain rfl ?_)
  refine h_callW (post := EncP (encReq r0 ds) r0.chk) rfl rfl rfl rfl rfl rfl rfl rfl EC.out (fun w' h => by
    have := EncP.of (rencodeRequest_makes (w := w') r0 sp (hd.but h.but))
    rw [hr0] at this ⊢
    exact this) ?_
  obtain ⟨eq, heq⟩ : ∃ l, encReq r0 ds = l := ⟨_, rfl⟩
  obtain ⟨ck, hck⟩ : ∃ c, r0.chk = c := ⟨_, rfl⟩
  rw [heq, hck]
  rintro u M ⟨a6, c6, rfl, rfl⟩
  (refine Zm rfl rfl rfl rfl rfl ?_; (iterate 2 (refine hx_plain rfl ?_; refine h_extract rfl rfl rfl rfl rfl ?_)); refine Za rfl rfl rfl rfl rfl ?_; refine Zn rfl rfl rfl rfl rfl ?_; refine Zl rfl ?_; refine h_move rfl rfl rfl rfl ?_; refine Zm rfl rfl rfl rfl rfl ?_; refine hx_plain rfl ?_)
  refine h_callRd rfl rfl rfl rfl rfl rfl EC.out (fun w' h => sameBytes (h.rdRowV (xs := eq) (.tail .head)) (h.rdRowV (xs := eq) .head)) ?_
  rw [decide_eq_true rfl]
  (refine Zn rfl rfl rfl rfl rfl ?_; refine Zl rfl ?_; refine h_move rfl rfl rfl rfl ?_; refine Zf rfl rfl rfl rfl rfl ?_; refine hx_plain rfl ?_; refine h_load rfl rfl UC.out rfl (.tail (.tail (.tail (.tail (.tail .head))))) rfl rfl rfl ?_; refine hx_plain rfl ?_)
  refine h_callW (post := fun u M => M = [RowV byteE 5 u (ds ++ room3)]) rfl rfl rfl rfl rfl rfl rfl rfl EC.out (fun w' h => room_makes (by have := hd.but h.but; rw [hr0] at this; exact this) (by omega)) ?_
  rintro u M rfl
  (refine hx_plain rfl ?_)
  refine h_callRd rfl rfl rfl rfl rfl rfl EC.out (fun w' h => sameBytes (h.rdRowV (xs := ds ++ room3) (.tail (.tail (.tail (.tail .head))))) (h.rdRowV .head)) ?_
  rw [decide_eq_true rfl]
  (refine Zn rfl rfl rfl rfl rfl ?_)
  refine hc_st (C' := St w nowhere [Blk bQ2 (.cells (⟨client, seq, ack, epoch, op, id, id2, off, len, path, name, name2, ⟨some ⟨g, 0, none⟩, ds.length, c⟩⟩ : ReqV).cs 24 (0, 0)), RowV byteE 5 (.slice (some ⟨g, 0, none⟩) (ds.length + 3) c) (ds ++ room3), Blk bp' (.cells #[.int .i64 pclient, .int .i64 pseq, .int .i64 pepoch, .int .i64 pop, .int .i64 status, .int .i64 aid, .int .i64 akind, .int .i64 asize, .int .i64 achange, .slice pa pn pc, .slice la ln lc, .bool more] 30 (0, 0))]) (fun _ h => by (refine St.sub ?_ h; refine .cons (.tail (.tail (.tail .head))) ?_; refine .cons (.tail (.tail (.tail .head))) ?_; refine .cons (.tail (.tail (.tail .head))) ?_; exact .nil)) ?_
  (refine hc_seq ?_; refine Zl rfl ?_; refine h_move rfl rfl rfl rfl ?_; refine hx_plain rfl ?_)
  refine h_callR rfl rfl rfl rfl rfl rfl EC.out ((lnum_spec ck).reads _) ?_
  (refine Zm rfl rfl rfl rfl rfl ?_; refine Zc rfl rfl rfl rfl rfl rfl rfl ?_; refine Zm rfl rfl rfl rfl rfl ?_; refine hx_gF rfl rfl rfl (by omega) ?_; refine hx_yes rfl rfl rfl ?_; refine h_move rfl rfl rfl rfl ?_; refine hx_yes rfl rfl rfl ?_; refine h_not rfl rfl rfl rfl ?_; refine Zp rfl rfl rfl rfl rfl rfl ?_; refine Zm rfl rfl rfl rfl rfl ?_; refine hx_yes rfl rfl rfl ?_; refine h_move rfl rfl rfl rfl ?_; refine hx_yes rfl rfl rfl ?_; refine h_not rfl rfl rfl rfl ?_; refine Zp rfl rfl rfl rfl rfl rfl ?_; refine Zt ?_; refine hc_condF rfl ?_; refine hc_skip ?_; refine hq_then ?_; refine Zl rfl ?_)
  refine h_loadP (cs' := #[.int .i64 pclient, .int .i64 pseq, .int .i64 pepoch, .int .i64 pop, .int .i64 status, .int .i64 aid, .int .i64 akind, .int .i64 asize, .int .i64 achange, .slice pa pn pc, .slice la ln lc, .bool more]) rfl rfl UC.out rfl IC.size (.tail (.tail .head)) rfl (by kernel_rfl) rfl rfl ?_
  (refine hx_plain rfl ?_)
  refine h_callW (post := TolP y0 ps es) rfl rfl rfl rfl rfl rfl rfl rfl EC.out (fun w' h => by have := told_makes y0 (hp.but h.but) (hl.but h.but) s1 s2; rw [hy0] at this ⊢; exact this) ?_
  rintro u M ⟨g1, c1, g2, c2, rfl, ⟨hc4, hc5⟩, rfl⟩
  rw [hy0]
  dsimp only [RepV.cs, SlV.v]
  (refine Zm rfl rfl rfl rfl rfl ?_; (iterate 3 (refine hx_plain rfl ?_; refine h_extract rfl rfl rfl rfl rfl ?_)); refine hx_plain rfl ?_; (refine h_alloc rfl rfl IC.zero rfl rfl rfl (fun _ => ?_)); refine hx_plain rfl ?_; refine h_storeAll rfl rfl rfl rfl rfl rfl IC.size .head rfl rfl rfl (List.all_eq_true.1 rfl) ?_; refine Za rfl rfl rfl rfl rfl ?_; refine Zn rfl rfl rfl rfl rfl ?_; refine Zl rfl ?_)
  refine h_loadP (cs' := (⟨pclient, pseq, pepoch, pop, status, aid, akind, asize, achange, ⟨some ⟨g1, 0, none⟩, ps.length, c1⟩, ⟨some ⟨g2, 0, none⟩, es.length, c2⟩, more⟩ : RepV).cs) rfl rfl UC.out rfl IC.size .head rfl (by kernel_rfl) rfl rfl ?_
  (refine hx_plain rfl ?_)
  have hl4 : (ps ++ room3).length = ps.length + 3 := by rw [List.length_append]; rfl
  have hl1 : (es ++ [spareE]).length = es.length + 1 := by rw [List.length_append]; rfl
  refine h_callW (post := EncP (encRep y0 ps es) (y0.chk es)) rfl rfl rfl rfl rfl rfl rfl rfl EC.out (fun w' h => by
    have hrd := h.rdRowV (xs := ps ++ room3) (.tail .head)
    have hre := h.rdRowV (xs := es ++ [spareE]) (.tail (.tail .head))
    rw [← hl4] at hrd
    rw [← hl1] at hre
    have := encP_makes (hk.but h.but) { y0 with dv := ⟨some ⟨g1, 0, none⟩, ps.length, c1⟩, lv := ⟨some ⟨g2, 0, none⟩, es.length, c2⟩ } (rd_full hrd rfl) (rd_full hre rfl)
    rw [encRep_dv y0 ⟨some ⟨g1, 0, none⟩, ps.length, c1⟩ ⟨some ⟨g2, 0, none⟩, es.length, c2⟩ hpl hll, y0.chk_dv es ⟨some ⟨g1, 0, none⟩, ps.length, c1⟩ ⟨some ⟨g2, 0, none⟩, es.length, c2⟩ hpl hll] at this
    rw [hy0] at this ⊢
    exact this) ?_
  rintro u M ⟨a7, c7, rfl, rfl⟩
  (refine Zm rfl rfl rfl rfl rfl ?_; (iterate 2 (refine hx_plain rfl ?_; refine h_extract rfl rfl rfl rfl rfl ?_)); refine Za rfl rfl rfl rfl rfl ?_; refine Zn rfl rfl rfl rfl rfl ?_; refine Zl rfl ?_)
  refine h_loadP (cs' := #[.int .i64 pclient, .int .i64 pseq, .int .i64 pepoch, .int .i64 pop, .int .i64 status, .int .i64 aid, .int .i64 akind, .int .i64 asize, .int .i64 achange, .slice pa pn pc, .slice la ln lc, .bool more]) rfl rfl UC.out rfl IC.size (.tail (.tail (.tail (.tail (.tail (.tail .head)))))) rfl (by kernel_rfl) rfl rfl ?_
  (refine hx_plain rfl ?_)
  refine h_callW (post := EncP (encRep y0 ps es) (y0.chk es)) rfl rfl rfl rfl rfl rfl rfl rfl EC.out (fun w' h => by
    have := EncP.of (rencodeReply_makes (w := w') y0 (hp.but h.but) (hl.but h.but))
    rw [hy0] at this ⊢
    exact this) ?_
  obtain ⟨ep, hep⟩ : ∃ l, encRep y0 ps es = l := ⟨_, rfl⟩
  obtain ⟨ck2, hck2⟩ : ∃ c, y0.chk es = c := ⟨_, rfl⟩
  rw [hep, hck2]
  rintro u M ⟨a8, c8, rfl, rfl⟩
  (refine Zm rfl rfl rfl rfl rfl ?_; (iterate 2 (refine hx_plain rfl ?_; refine h_extract rfl rfl rfl rfl rfl ?_)); refine Za rfl rfl rfl rfl rfl ?_; refine Zn rfl rfl rfl rfl rfl ?_; refine Zl rfl ?_; refine h_move rfl rfl rfl rfl ?_; refine Zm rfl rfl rfl rfl rfl ?_; refine hx_plain rfl ?_)
  refine h_callRd rfl rfl rfl rfl rfl rfl EC.out (fun w' h => sameBytes (h.rdRowV (xs := ep) (.tail .head)) (h.rdRowV (xs := ep) .head)) ?_
  rw [decide_eq_true rfl]
  (refine Zn rfl rfl rfl rfl rfl ?_; refine Zl rfl ?_)
  refine h_loadP (cs' := #[.int .i64 pclient, .int .i64 pseq, .int .i64 pepoch, .int .i64 pop, .int .i64 status, .int .i64 aid, .int .i64 akind, .int .i64 asize, .int .i64 achange, .slice pa pn pc, .slice la ln lc, .bool more]) rfl rfl UC.out rfl IC.size (.tail (.tail (.tail (.tail (.tail (.tail (.tail .head))))))) rfl (by kernel_rfl) rfl rfl ?_
  ((iterate 2 (refine Zm rfl rfl rfl rfl rfl ?_)); refine hx_plain rfl ?_)
  refine h_callRd (v := .bool true) rfl rfl rfl rfl rfl rfl EC.out (fun w' h => by
    have := kept_reads y0 (hp.but h.but) (hl.but h.but) s1 s2 (h.rdRowV (xs := ps ++ room3) (.tail (.tail (.tail .head)))) (h.rdRowV (xs := es ++ [spareE]) (.tail (.tail (.tail (.tail .head)))))
    rw [decide_eq_true rfl, decide_eq_true rfl] at this
    rw [hy0] at this
    exact this) ?_
  (refine Zn rfl rfl rfl rfl rfl ?_; refine hc_seq ?_; refine Zl rfl ?_; refine h_move rfl rfl rfl rfl ?_; refine hx_plain rfl ?_)
  refine h_callR rfl rfl rfl rfl rfl rfl EC.out ((lnum_spec ck2).reads _) ?_
  (refine Zm rfl rfl rfl rfl rfl ?_; refine Zc rfl rfl rfl rfl rfl rfl rfl ?_; refine Zm rfl rfl rfl rfl rfl ?_; refine hx_gF rfl rfl rfl (by omega) ?_; refine hx_yes rfl rfl rfl ?_; refine h_move rfl rfl rfl rfl ?_; refine hx_yes rfl rfl rfl ?_; refine h_not rfl rfl rfl rfl ?_; refine Zp rfl rfl rfl rfl rfl rfl ?_; refine Zm rfl rfl rfl rfl rfl ?_; refine hx_yes rfl rfl rfl ?_; refine h_move rfl rfl rfl rfl ?_; refine hx_yes rfl rfl rfl ?_; refine h_not rfl rfl rfl rfl ?_; refine Zp rfl rfl rfl rfl rfl rfl ?_; refine Zt ?_; refine hc_condF rfl ?_; refine hc_skip ?_; refine hq_then ?_; refine Zl rfl ?_)
  refine h_loadP (cs' := (⟨client, seq, ack, epoch, op, id, id2, off, len, path, name, name2, ⟨some ⟨g, 0, none⟩, ds.length, c⟩⟩ : ReqV).cs) rfl rfl UC.out rfl IC.size (.tail (.tail (.tail (.tail (.tail .head))))) rfl (by kernel_rfl) rfl rfl ?_
  (refine Zm rfl rfl rfl rfl rfl ?_; refine hx_plain rfl ?_)
  refine h_loadP (cs' := (⟨pclient, pseq, pepoch, pop, status, aid, akind, asize, achange, ⟨some ⟨g1, 0, none⟩, ps.length, c1⟩, ⟨some ⟨g2, 0, none⟩, es.length, c2⟩, more⟩ : RepV).cs) rfl rfl UC.out rfl IC.size (.tail (.tail .head)) rfl (by kernel_rfl) rfl rfl ?_
  ((iterate 2 (refine Zm rfl rfl rfl rfl rfl ?_)); refine hx_plain rfl ?_)
  refine h_callB (.refl _ _) (fun _ h => h.elim) rfl rfl rfl rfl rfl rfl rfl rfl EC.out (.cons (.tail (.tail (.tail (.tail (.tail (.tail .head)))))) (.cons (.tail (.tail (.tail .head))) (.cons (.tail (.tail (.tail .head))) .nil))) (by have := turned_spec hk r0 y0 (ds := ds) (ps := ps) (es := es) g c g1 c1 g2 c2 hdl hpl hll sp sd s1 s2; rw [hr0, hy0] at this; exact this) ?_
  rintro u M ⟨rfl, rfl⟩
  (refine Zn rfl rfl rfl rfl rfl ?_; refine hc_ret ?_)
  exact hq_ret1 (.inr rfl) rfl rfl ⟨rfl, rfl⟩ (fun _ h => h.emp)
end Go.Proofs.YtfolhmlldoepfaaGreatDoor
