import Derived.Test.YtbfmmgbfliebhaaN3
namespace Go.Proofs.Ytbfmmgbfliebhaa
open Go Go.Proofs
set_option maxRecDepth 4000

theorem new_spec : Spec Try.prog 10 [] [] (fun u M => ∃ p, u = .pointer (some ⟨p, 0, none⟩) ∧ M = [NetO p NS.new]) := by
  refine spec_of Try.func10 rfl rfl (Nat.le_of_ble_eq_true rfl) (fun w F => ?_)
  (refine hc_seq ?_; refine hc_lex ?_; refine hx_plain rfl ?_; refine h_assign rfl rfl rfl rfl ?_; refine hx_nil ?_; refine hq_then ?_; refine hc_seq ?_; refine hc_lex ?_; refine hx_plain rfl ?_)
  refine h_makeMap (KO := iK) rfl rfl rfl rfl (fun g => ?_)
  (refine hx_plain rfl ?_; refine h_build rfl inferInstance rfl rfl rfl rfl ?_; refine hx_plain rfl ?_; (refine h_box rfl rfl rfl rfl rfl rfl (fun _ => ?_)); refine hx_plain rfl ?_; refine h_assign rfl rfl rfl rfl ?_; refine hx_nil ?_; refine hq_then ?_; refine hc_ret ?_)
  rename_i p
  refine hq_ret1 (.inr rfl) rfl rfl ⟨p, rfl, rfl⟩ (fun _ h => ?_)
  refine NetO_shut (g := g) (ks := []) rfl ?_
  have h2 : St w F (All [] :: [MapA iK g [], netB p g 0]) _ := St.all.2 (h.sub (.cons (.tail .head) (.cons .head .nil)))
  exact h2.pulls (.cons (.tail (.tail .head)) (.cons (.tail .head) (.cons .head .nil)))
theorem Makes.slV {X : Type} {E : Elem X} {T : Nat} {P : Program} {f : FuncId} {args : List Value} {w : World} {xs : List X} (h : Makes P f args w (fun u M => M = [RowV E T u xs])) : Makes P f args w (fun u M => ∃ s : SlV, u = s.v ∧ M = [RowV E T s.v xs]) :=
  h.mono fun en w' ⟨v, M, e, hM, hst⟩ => by
    subst hM
    obtain ⟨a, c, e2, _⟩ := hst.rdRowV .head
    subst e2
    exact ⟨_, [RowV E T _ xs], e, ⟨⟨a, xs.length, c⟩, rfl, rfl⟩, hst⟩
set_option maxHeartbeats 1000000 in
theorem send_calls {w : World} {F : Nat → Prop} {p g : Nat} {to : Int} {s : NS} {ks : List QF} {A : List Asn} {v : Value} {d : List Int} (hok : s.Ok) (hgiv : s.given ≤ 4611686018427387904) (hl : ks.map (·.f) = s.l) (hd : d.length ≤ 140737488355200)
    (hrd : ∀ L w', St w F (L ++ netR ks :: A) w' → Rd byteE w' v d) (hs : Star w (netB p g s.given :: netM g ks :: netR ks :: A) F) :
    Calls Try.prog 17 [.pointer (some ⟨p, 0, none⟩), .agg #[.int .i64 to, v]].toArray w (bodyR w F (fun u M => u = .int .i64 s.sent ∧ M = NetO p (s.send to d) :: A)) := by
  refine spec_at Try.func17 rfl rfl (Nat.le_of_ble_eq_true rfl) hs ?_
  have hlen : (ks.map QF.ent).length = s.l.length := by rw [List.length_map, ← hl, List.length_map]
  have hg0 := hok.g0
  (refine hc_seq ?_; refine hc_lex ?_; refine hx_plain rfl ?_; (refine h_box rfl rfl rfl rfl rfl rfl (fun _ => ?_)); refine hx_plain rfl ?_; refine h_assign rfl rfl rfl rfl ?_; refine hx_nil ?_; refine hq_then ?_; refine hc_seq ?_; refine hc_seq ?_; refine hc_lex ?_; refine hx_plain rfl ?_; refine h_move rfl rfl rfl rfl ?_; refine hx_plain rfl ?_; refine h_nilCheck rfl rfl rfl rfl ?_; refine hx_plain rfl ?_; refine h_fieldAddr0 rfl rfl FC.out rfl rfl ?_; refine hx_plain rfl ?_; refine h_load rfl rfl UC.out rfl (.tail .head) rfl rfl rfl ?_; refine hx_plain rfl ?_)
  refine h_len_map rfl rfl rfl UC.out (.tail (.tail .head)) rfl rfl rfl ?_
  rw [hlen]
  (refine hx_plain rfl ?_; refine h_cmp rfl rfl rfl rfl rfl rfl ?_; refine hx_nil ?_; refine hq_then ?_; refine hc_condD rfl (fun hc => ?_) (fun hc => ?_); refine hc_seq ?_; refine hc_lex ?_; refine hx_plain rfl ?_; refine h_assign rfl rfl rfl rfl ?_; refine hx_nil ?_; refine hq_then ?_; refine hc_ret ?_; refine hq_ret_then ?_; rotate_left; refine hc_skip ?_; refine hq_then ?_; refine hc_seq ?_; refine hc_lex ?_; refine hx_plain rfl ?_; refine h_move rfl rfl rfl rfl ?_; refine hx_plain rfl ?_; refine h_nilCheck rfl rfl rfl rfl ?_; refine hx_plain rfl ?_; refine h_fieldAddr0 rfl rfl FC.out rfl rfl ?_; refine hx_plain rfl ?_; refine h_load rfl rfl UC.out rfl (.tail .head) rfl rfl rfl ?_; refine hx_plain rfl ?_; refine h_arithI rfl rfl rfl rfl (by omega) rfl rfl ?_; refine hx_plain rfl ?_; refine h_nilCheck rfl rfl rfl rfl ?_; refine hx_plain rfl ?_; refine h_fieldAddr0 rfl rfl FC.out rfl rfl ?_; refine hx_plain rfl ?_; refine h_store rfl rfl rfl rfl rfl rfl IC.size (.tail .head) rfl rfl (Nat.le_of_ble_eq_true rfl) (List.all_eq_true.1 rfl) ?_; refine hx_nil ?_; refine hq_then ?_; refine hc_seq ?_; rotate_left)
  · have hfull : ¬ s.l.length < 4096 := by omega
    refine hq_ret1 (.inr rfl) rfl rfl ⟨by unfold NS.sent; rw [if_neg hfull], rfl⟩ (fun _ h => ?_)
    unfold NS.send
    rw [if_neg hfull]
    exact NetO_shut hl ((h.pulls (.cons (.tail .head) (.cons (.tail .head) (.cons (.tail .head) .nil)))).pull (.tail (.tail (.tail .head)))).drop
  have hroom : s.l.length < 4096 := by omega
  rename_i b
  have hno : s.given + 1 ∉ (ks.map QF.ent).map (·.1) := by
    rw [ent_keys, nos_of hl]
    intro hm
    obtain ⟨f, hf', e⟩ := List.mem_map.1 hm
    have := (hok.top f hf').2
    omega
  refine hc_drawD2 (D := St w F [netB p g (s.given + 1), Blk b (.cells #[.int .i64 to, v] 37 (0, 0))]) [0, 1, 2, 3, 4, 5, 6, 7, 8, 9, 10, 11] [12, 13, 14] (by kernel_rfl) (by kernel_rfl) rfl (fun x h => ?_) rfl ?_
  · exact h.sub (.cons .head (.cons .head .nil))
  (refine hx_plain rfl ?_; refine h_move rfl rfl rfl rfl ?_; refine hx_plain rfl ?_; refine h_nilCheck rfl rfl rfl rfl ?_; refine hx_plain rfl ?_; refine h_fieldAddr0 rfl rfl FC.out rfl rfl ?_; refine hx_plain rfl ?_; refine h_load rfl rfl UC.out rfl .head rfl rfl rfl ?_; refine hx_plain rfl ?_; refine h_move rfl rfl rfl rfl ?_; refine hx_plain rfl ?_; refine h_nilCheck rfl rfl rfl rfl ?_; refine hx_plain rfl ?_; refine h_fieldAddr0 rfl rfl FC.out rfl rfl ?_; refine hx_plain rfl ?_; refine h_load rfl rfl UC.out rfl .head rfl rfl rfl ?_; refine hx_plain rfl ?_; refine h_fieldAddr0 rfl rfl FC.out rfl rfl ?_; refine hx_plain rfl ?_; refine h_load rfl rfl UC.out rfl (.tail .head) rfl rfl rfl ?_; refine hx_plain rfl ?_; refine h_fieldAddr0 rfl rfl FC.out rfl rfl ?_; refine hx_plain rfl ?_; refine h_load rfl rfl UC.out rfl (.tail .head) rfl rfl rfl ?_; refine hx_nil ?_)
  refine hd_callW (post := fun u M => ∃ s : SlV, u = s.v ∧ M = [RowV byteE 5 s.v d]) rfl rfl rfl rfl rfl rfl rfl rfl EC.out (fun w' h => (clone_makes (hrd [_, _, _] w' h) hd).slV) (fun u M hM x h => ?_) ?_
  · obtain ⟨sl, _, rfl⟩ := hM
    exact h.sub (.cons (.tail .head) (.cons (.tail .head) .nil))
  rintro u M ⟨sl, rfl, rfl⟩
  refine hd_reads [(13, _)] rfl ?_
  (refine hx_plain rfl ?_; refine h_build rfl inferInstance rfl rfl rfl rfl ?_; refine hx_nil ?_)
  refine hd_mapUpdate (KO := iK) rfl rfl rfl rfl (.tail (.tail (.tail .head))) rfl rfl UC.out UC.out rfl (fun x h => ?_) ?_
  · exact h.sub (.cons (.tail (.tail .head)) (.cons (.tail (.tail .head)) .nil))
  refine hd_nil ?_
  (refine hq_then ?_; refine hc_seq ?_; refine hc_lex ?_; refine hx_plain rfl ?_; refine h_move rfl rfl rfl rfl ?_; refine hx_plain rfl ?_; refine h_nilCheck rfl rfl rfl rfl ?_; refine hx_plain rfl ?_; refine h_fieldAddr0 rfl rfl FC.out rfl rfl ?_; refine hx_plain rfl ?_; refine h_load rfl rfl UC.out rfl (.tail (.tail .head)) rfl rfl rfl ?_; refine hx_plain rfl ?_; refine h_assign rfl rfl rfl rfl ?_; refine hx_nil ?_; refine hq_then ?_; refine hc_ret ?_)
  refine hq_ret1 (.inr rfl) rfl rfl ⟨by unfold NS.sent; rw [if_pos hroom], rfl⟩ (fun w' h => ?_)
  have hq : St w F (netM g (ks ++ [⟨⟨s.given + 1, to, d⟩, sl⟩]) :: QF.row ⟨⟨s.given + 1, to, d⟩, sl⟩ :: netB p g (s.given + 1) :: Blk b (.cells #[.int .i64 to, v] 37 (0, 0)) :: netR ks :: A) w' := by
    have e : (ks ++ [(⟨⟨s.given + 1, to, d⟩, sl⟩ : QF)]).map QF.ent = mset iK (ks.map QF.ent) (s.given + 1) (.agg #[.int .i64 to, sl.v]) := by
      rw [mset_new' hno, List.map_append]
      rfl
    show St w F (MapA iK g _ :: _) w'
    rw [e]
    exact h
  have hq2 : St w F (netR ks :: QF.row ⟨⟨s.given + 1, to, d⟩, sl⟩ :: netB p g (s.given + 1) :: netM g (ks ++ [⟨⟨s.given + 1, to, d⟩, sl⟩]) :: A) w' := (hq.pulls (.cons (.tail (.tail (.tail .head))) (.cons (.tail (.tail (.tail .head))) (.cons (.tail .head) (.cons (.tail .head) (.cons .head .nil)))))).drop
  have hq3 := shl_snoc hq2
  unfold NS.send
  rw [if_pos hroom]
  refine NetO_shut (g := g) (ks := ks ++ [⟨⟨s.given + 1, to, d⟩, sl⟩]) (by rw [List.map_append, hl]; rfl) ?_
  have hq4 : St w F (netR (ks ++ [⟨⟨s.given + 1, to, d⟩, sl⟩]) :: netB p g (s.given + 1) :: netM g (ks ++ [⟨⟨s.given + 1, to, d⟩, sl⟩]) :: A) w' := by
    unfold netR
    rw [List.map_append]
    exact hq3
  exact hq4.pulls (.cons (.tail .head) (.cons (.tail .head) (.cons .head .nil)))
theorem St.toStar {w : World} {F : Nat → Prop} {L : List Asn} (h : St w F L w) : Star w L F := by
  obtain ⟨F', h1, _, h3⟩ := h
  exact h1.tight.mono (fun b hb => (h3 b hb.1).resolve_right (by have := hb.2; omega))
/-- Send, what is sent being read out of a piece. -/
theorem sendA {p : Nat} {to : Int} {s : NS} {A0 : Asn} {v : Value} {d : List Int} (hok : s.Ok) (hgiv : s.given ≤ 4611686018427387904) (hd : d.length ≤ 140737488355200) (hA : ∀ w F, A0.p w F → Rd byteE w v d) :
    Spec Try.prog 17 [.pointer (some ⟨p, 0, none⟩), .agg #[.int .i64 to, v]] [NetO p s, A0] (fun u M => u = .int .i64 s.sent ∧ M = [NetO p (s.send to d), A0]) := fun w F hs => by
  obtain ⟨x, hl, h2⟩ := NetO_open w w F [A0] (St.start hs)
  exact send_calls (A := [A0]) hok hgiv hl hd (fun L w' h => by
    have h3 : St w F (netR x.2 :: A0 :: L) w' := h.perm List.perm_append_comm
    obtain ⟨G, hG⟩ := h3.get (.tail .head)
    exact hA w' G hG) (St.toStar h2)
/-- .. out of what was there before. -/
theorem sendB {w1 : World} {p : Nat} {to : Int} {s : NS} {v : Value} {d : List Int} (hok : s.Ok) (hgiv : s.given ≤ 4611686018427387904) (hr : Rd byteE w1 v d) (hd : d.length ≤ 140737488355200) :
    SpecB Try.prog w1 17 [.pointer (some ⟨p, 0, none⟩), .agg #[.int .i64 to, v]] [NetO p s] (fun u M => u = .int .i64 s.sent ∧ M = [NetO p (s.send to d)]) := fun w F hs hB hF => by
  obtain ⟨x, hl, h2⟩ := NetO_open w w F [] (St.start hs)
  exact send_calls (A := []) hok hgiv hl hd (fun L w' h => hr.but (h.butB hB hF)) (St.toStar h2)
theorem rows_erase {ks : List QF} {k : Nat} {q : QF} (h : ks[k]? = some q) {w w0 : World} {F0 : Nat → Prop} {R : List Asn} (hs : St w0 F0 (netR ks :: R) w) : St w0 F0 (QF.row q :: netR (ks.eraseIdx k) :: R) w :=
  shl_cons (shl_perm ((shl_erase h).map QF.row) hs)
theorem eraseIdx_map' {α β : Type} (f : α → β) (l : List α) (k : Nat) : (l.eraseIdx k).map f = (l.map f).eraseIdx k := map_erase f l k
def slNil : SlV := ⟨none, 0, 0⟩
set_option maxHeartbeats 1000000 in
theorem take_spec {p : Nat} {s : NS} (no : Int) (hok : s.Ok) :
    Spec Try.prog 12 [.pointer (some ⟨p, 0, none⟩), .int .i64 no] [NetO p s] (fun u M => (s.find no = none ∧ u = .tuple #[.agg #[.int .i64 0, .slice none 0 0], .int .i64 201] ∧ M = [NetO p s]) ∨ ∃ (f : Fl) (sl : SlV), s.find no = some f ∧ u = .tuple #[.agg #[.int .i64 f.to, sl.v], .int .i64 0] ∧ M = [RowV byteE 5 sl.v f.data, NetO p (s.del no)]) := by
  refine spec_of Try.func12 rfl rfl (Nat.le_of_ble_eq_true rfl) (fun w F => ?_)
  refine hc_openP .head NetO_open ?_
  rintro ⟨g, ks⟩ hl
  dsimp only at hl ⊢
  rcases net_find hl hok no with ⟨hf, hno, hm⟩ | ⟨k, q, hk, hno, hf, hsk, hm⟩
  · (refine hc_seq ?_; refine hc_lex ?_; refine hx_plain rfl ?_; (refine h_alloc rfl rfl IC.zero rfl rfl rfl (fun _ => ?_)); refine hx_plain rfl ?_; refine h_assign rfl rfl rfl rfl ?_; refine hx_nil ?_; refine hq_then ?_; refine hc_seq ?_; refine hc_lex ?_; refine hx_plain rfl ?_; refine h_move rfl rfl rfl rfl ?_; refine hx_plain rfl ?_; refine h_move rfl rfl rfl rfl ?_; refine hx_plain rfl ?_)
    refine h_call rfl rfl rfl rfl rfl rfl rfl rfl EC.out (.cons (.tail .head) (.cons (.tail .head) .nil)) (find_spec p g s.given no ks _ 201 (.inl ⟨hm, rfl, rfl⟩)) ?_
    rintro u M ⟨rfl, rfl⟩
    (refine hx_plain rfl ?_; refine h_move rfl rfl rfl rfl ?_; refine hx_plain rfl ?_; refine h_extract rfl rfl rfl rfl rfl ?_; refine hx_plain rfl ?_; refine h_extract rfl rfl rfl rfl rfl ?_; refine hx_plain rfl ?_; (refine h_alloc rfl rfl IC.zero rfl rfl rfl (fun _ => ?_)); refine hx_plain rfl ?_; refine h_store rfl rfl rfl rfl rfl rfl IC.size .head rfl rfl (Nat.le_of_ble_eq_true rfl) (List.all_eq_true.1 rfl) ?_; refine hx_plain rfl ?_; refine h_assign rfl rfl rfl rfl ?_; refine hx_nil ?_; refine hq_then ?_; refine hc_seq ?_; refine hc_lex ?_; refine hx_plain rfl ?_; refine h_move rfl rfl rfl rfl ?_; refine hx_plain rfl ?_; refine h_nilCheck rfl rfl rfl rfl ?_; refine hx_plain rfl ?_; refine h_fieldAddr0 rfl rfl FC.out rfl rfl ?_; refine hx_plain rfl ?_; refine h_load rfl rfl UC.out rfl (.tail .head) rfl rfl rfl ?_; refine hx_plain rfl ?_; refine h_move rfl rfl rfl rfl ?_; refine hx_plain rfl ?_)
    refine h_delete0 (KO := iK) rfl rfl rfl (by first | exact .head | exact (.tail .head) | exact (.tail (.tail .head)) | exact (.tail (.tail (.tail .head))) | exact (.tail (.tail (.tail (.tail .head)))) | exact (.tail (.tail (.tail (.tail (.tail .head))))) | exact (.tail (.tail (.tail (.tail (.tail (.tail .head)))))) | exact (.tail (.tail (.tail (.tail (.tail (.tail (.tail .head)))))))) rfl UC.out UC.out rfl rfl ?_
    (refine hx_nil ?_; refine hq_then ?_; refine hc_seq ?_; refine hc_lex ?_; refine hx_plain rfl ?_; refine h_load2 rfl rfl UC.out rfl IC.size (.tail .head) rfl rfl rfl rfl ?_; refine hx_plain rfl ?_; refine h_move rfl rfl rfl rfl ?_; refine hx_plain rfl ?_; refine h_store rfl rfl rfl rfl rfl rfl IC.size (.tail (.tail (.tail .head))) rfl rfl (Nat.le_of_ble_eq_true rfl) (List.all_eq_true.1 rfl) ?_; refine hx_plain rfl ?_; refine h_assign rfl rfl rfl rfl ?_; refine hx_nil ?_; refine hq_then ?_; refine hc_ret ?_)
    refine hq_R2 (.inr rfl) rfl (rv_cell rfl .head UC.out rfl IC.size) (rv_tmp rfl) (.inl ⟨hf, rfl, rfl⟩) (fun _ h => ?_)
    rw [mdel_none' hno] at h
    exact NetO_shut hl (h.sub (.cons (.tail (.tail (.tail .head))) (.cons (.tail .head) (.cons (.tail (.tail .head)) .nil))))
  · (refine hc_seq ?_; refine hc_lex ?_; refine hx_plain rfl ?_; (refine h_alloc rfl rfl IC.zero rfl rfl rfl (fun _ => ?_)); refine hx_plain rfl ?_; refine h_assign rfl rfl rfl rfl ?_; refine hx_nil ?_; refine hq_then ?_; refine hc_seq ?_; refine hc_lex ?_; refine hx_plain rfl ?_; refine h_move rfl rfl rfl rfl ?_; refine hx_plain rfl ?_; refine h_move rfl rfl rfl rfl ?_; refine hx_plain rfl ?_)
    refine h_call rfl rfl rfl rfl rfl rfl rfl rfl EC.out (.cons (.tail .head) (.cons (.tail .head) .nil)) (find_spec p g s.given no ks _ 0 (.inr ⟨q.f.to, q.sl, hm, rfl, rfl⟩)) ?_
    rintro u M ⟨rfl, rfl⟩
    (refine hx_plain rfl ?_; refine h_move rfl rfl rfl rfl ?_; refine hx_plain rfl ?_; refine h_extract rfl rfl rfl rfl rfl ?_; refine hx_plain rfl ?_; refine h_extract rfl rfl rfl rfl rfl ?_; refine hx_plain rfl ?_; (refine h_alloc rfl rfl IC.zero rfl rfl rfl (fun _ => ?_)); refine hx_plain rfl ?_; refine h_store rfl rfl rfl rfl rfl rfl IC.size .head rfl rfl (Nat.le_of_ble_eq_true rfl) (List.all_eq_true.1 rfl) ?_; refine hx_plain rfl ?_; refine h_assign rfl rfl rfl rfl ?_; refine hx_nil ?_; refine hq_then ?_; refine hc_seq ?_; refine hc_lex ?_; refine hx_plain rfl ?_; refine h_move rfl rfl rfl rfl ?_; refine hx_plain rfl ?_; refine h_nilCheck rfl rfl rfl rfl ?_; refine hx_plain rfl ?_; refine h_fieldAddr0 rfl rfl FC.out rfl rfl ?_; refine hx_plain rfl ?_; refine h_load rfl rfl UC.out rfl (.tail .head) rfl rfl rfl ?_; refine hx_plain rfl ?_; refine h_move rfl rfl rfl rfl ?_; refine hx_plain rfl ?_)
    refine h_delete0 (KO := iK) rfl rfl rfl (by first | exact .head | exact (.tail .head) | exact (.tail (.tail .head)) | exact (.tail (.tail (.tail .head))) | exact (.tail (.tail (.tail (.tail .head)))) | exact (.tail (.tail (.tail (.tail (.tail .head))))) | exact (.tail (.tail (.tail (.tail (.tail (.tail .head)))))) | exact (.tail (.tail (.tail (.tail (.tail (.tail (.tail .head)))))))) rfl UC.out UC.out rfl rfl ?_
    (refine hx_nil ?_; refine hq_then ?_; refine hc_seq ?_; refine hc_lex ?_; refine hx_plain rfl ?_; refine h_load2 rfl rfl UC.out rfl IC.size (.tail .head) rfl rfl rfl rfl ?_; refine hx_plain rfl ?_; refine h_move rfl rfl rfl rfl ?_; refine hx_plain rfl ?_; refine h_store rfl rfl rfl rfl rfl rfl IC.size (.tail (.tail (.tail .head))) rfl rfl (Nat.le_of_ble_eq_true rfl) (List.all_eq_true.1 rfl) ?_; refine hx_plain rfl ?_; refine h_assign rfl rfl rfl rfl ?_; refine hx_nil ?_; refine hq_then ?_; refine hc_ret ?_)
    refine hq_R2 (.inr rfl) rfl (rv_cell rfl .head UC.out rfl IC.size) (rv_tmp rfl) (.inr ⟨q.f, q.sl, hf, rfl, rfl⟩) (fun w' h => ?_)
    have hk2 : (ks.map QF.ent)[k]? = some (no, .agg #[.int .i64 q.f.to, q.sl.v]) := by rw [List.getElem?_map, hk, ← hno]; rfl
    rw [mdel_at (by rw [ent_keys, nos_of hl]; exact nos_nodup hok) hk2, ← eraseIdx_map'] at h
    have h1 : St w F (netR ks :: netB p g s.given :: MapA iK g ((ks.eraseIdx k).map QF.ent) :: []) w' := h.sub (.cons (.tail (.tail (.tail (.tail .head)))) (.cons (.tail (.tail (.tail .head))) (.cons (.tail .head) .nil)))
    have h2 := rows_erase hk h1
    have hl2 : (ks.eraseIdx k).map (·.f) = (s.del no).l := by
      rw [eraseIdx_map', hl, ← hno, NS.del_at hok hsk]
    have h3 : St w F (netB p g s.given :: netM g (ks.eraseIdx k) :: netR (ks.eraseIdx k) :: [QF.row q]) w' := h2.pulls (.cons (.tail (.tail .head)) (.cons (.tail (.tail .head)) (.cons (.tail .head) (.cons .head .nil))))
    exact (NetO_shut (s := s.del no) hl2 h3).perm (List.Perm.swap _ _ _)
/-- What is told of a number that may not be there. -/
def NS.errOf (s : NS) (no : Int) : Int := if (s.find no).isSome then 0 else 201
theorem NS.errOf_none {s : NS} {no : Int} (h : s.find no = none) : s.errOf no = 201 := by unfold NS.errOf; rw [h]; rfl
theorem NS.errOf_some {s : NS} {no : Int} {f : Fl} (h : s.find no = some f) : s.errOf no = 0 := by unfold NS.errOf; rw [h]; rfl
theorem drop_spec {p : Nat} {s : NS} (no : Int) (hok : s.Ok) :
    Spec Try.prog 28 [.pointer (some ⟨p, 0, none⟩), .int .i64 no] [NetO p s] (fun u M => u = .int .i64 (s.errOf no) ∧ M = [NetO p (s.del no)]) := by
  refine spec_of Try.func28 rfl rfl (Nat.le_of_ble_eq_true rfl) (fun w F => ?_)
  (refine hc_seq ?_; refine hc_lex ?_; refine hx_plain rfl ?_; refine h_assign rfl rfl rfl rfl ?_; refine hx_nil ?_; refine hq_then ?_; refine hc_seq ?_; refine hc_lex ?_; refine hx_plain rfl ?_; refine h_move rfl rfl rfl rfl ?_; refine hx_plain rfl ?_; refine h_move rfl rfl rfl rfl ?_; refine hx_plain rfl ?_)
  refine h_call rfl rfl rfl rfl rfl rfl rfl rfl EC.out (.cons .head .nil) (take_spec no hok) ?_
  rintro u M (⟨hf, rfl, rfl⟩ | ⟨f, sl, hf, rfl, rfl⟩)
  · rw [NS.errOf_none hf, NS.del_none hf]
    (refine hx_plain rfl ?_; refine h_move rfl rfl rfl rfl ?_; refine hx_plain rfl ?_; refine h_extract rfl rfl rfl rfl rfl ?_; refine hx_plain rfl ?_; refine h_extract rfl rfl rfl rfl rfl ?_; refine hx_plain rfl ?_; (refine h_alloc rfl rfl IC.zero rfl rfl rfl (fun _ => ?_)); refine hx_plain rfl ?_; refine h_store rfl rfl rfl rfl rfl rfl IC.size .head rfl rfl (Nat.le_of_ble_eq_true rfl) (List.all_eq_true.1 rfl) ?_; refine hx_plain rfl ?_; refine h_assign rfl rfl rfl rfl ?_; refine hx_nil ?_; refine hq_then ?_; refine hc_seq ?_; refine hc_lex ?_; refine hx_plain rfl ?_; refine h_move rfl rfl rfl rfl ?_; refine hx_plain rfl ?_; refine h_assign rfl rfl rfl rfl ?_; refine hx_nil ?_; refine hq_then ?_; refine hc_ret ?_)
    refine hq_ret1 (.inr rfl) rfl rfl ⟨rfl, rfl⟩ (fun _ h => ?_)
    (refine St.sub ?_ h; refine .cons (.tail .head) ?_; exact .nil)
  · rw [NS.errOf_some hf]
    (refine hx_plain rfl ?_; refine h_move rfl rfl rfl rfl ?_; refine hx_plain rfl ?_; refine h_extract rfl rfl rfl rfl rfl ?_; refine hx_plain rfl ?_; refine h_extract rfl rfl rfl rfl rfl ?_; refine hx_plain rfl ?_; (refine h_alloc rfl rfl IC.zero rfl rfl rfl (fun _ => ?_)); refine hx_plain rfl ?_; refine h_store rfl rfl rfl rfl rfl rfl IC.size .head rfl rfl (Nat.le_of_ble_eq_true rfl) (List.all_eq_true.1 rfl) ?_; refine hx_plain rfl ?_; refine h_assign rfl rfl rfl rfl ?_; refine hx_nil ?_; refine hq_then ?_; refine hc_seq ?_; refine hc_lex ?_; refine hx_plain rfl ?_; refine h_move rfl rfl rfl rfl ?_; refine hx_plain rfl ?_; refine h_assign rfl rfl rfl rfl ?_; refine hx_nil ?_; refine hq_then ?_; refine hc_ret ?_)
    refine hq_ret1 (.inr rfl) rfl rfl ⟨rfl, rfl⟩ (fun _ h => ?_)
    (refine St.sub ?_ h; refine .cons (.tail (.tail .head)) ?_; exact .nil)
/-- Copy: what it answers, what comes of it. -/
def NS.copied (s : NS) (no : Int) : Int := match s.find no with
  | none => 0
  | some _ => s.sent
def NS.copy (s : NS) (no : Int) : NS := match s.find no with
  | none => s
  | some f => s.send f.to f.data
theorem sendQ {p g : Nat} {to : Int} {s : NS} {ks : List QF} {k : Nat} {q : QF} (hok : s.Ok) (hgiv : s.given ≤ 4611686018427387904) (hl : ks.map (·.f) = s.l) (hk : ks[k]? = some q) (hd : q.f.data.length ≤ 140737488355200) :
    Spec Try.prog 17 [.pointer (some ⟨p, 0, none⟩), .agg #[.int .i64 to, q.sl.v]] [netB p g s.given, netM g ks, netR ks] (fun u M => u = .int .i64 s.sent ∧ M = [NetO p (s.send to q.f.data)]) := fun w F hs =>
  send_calls (A := []) hok hgiv hl hd (fun L w' h => by
    have h3 : St w F (netR ks :: ([] ++ L)) w' := h.perm List.perm_append_comm
    exact (rows_erase hk h3).rdRowV .head) hs
set_option maxHeartbeats 1000000 in
theorem copy_spec {p : Nat} {s : NS} (no : Int) (hok : s.Ok) (hgiv : s.given ≤ 4611686018427387904) (hd : ∀ f ∈ s.l, f.data.length ≤ 140737488355200) :
    Spec Try.prog 29 [.pointer (some ⟨p, 0, none⟩), .int .i64 no] [NetO p s] (fun u M => u = .tuple #[.int .i64 (s.copied no), .int .i64 (s.errOf no)] ∧ M = [NetO p (s.copy no)]) := by
  refine spec_of Try.func29 rfl rfl (Nat.le_of_ble_eq_true rfl) (fun w F => ?_)
  refine hc_openP .head NetO_open ?_
  rintro ⟨g, ks⟩ hl
  dsimp only at hl ⊢
  rcases net_find hl hok no with ⟨hf, hno, hm⟩ | ⟨k, q, hk, hno, hf, hsk, hm⟩
  · (refine hc_seq ?_; refine hc_lex ?_; refine hx_plain rfl ?_; refine h_assign rfl rfl rfl rfl ?_; refine hx_plain rfl ?_; refine h_assign rfl rfl rfl rfl ?_; refine hx_nil ?_; refine hq_then ?_; refine hc_seq ?_; refine hc_lex ?_; refine hx_plain rfl ?_; refine h_move rfl rfl rfl rfl ?_; refine hx_plain rfl ?_; refine h_move rfl rfl rfl rfl ?_; refine hx_plain rfl ?_)
    refine h_call rfl rfl rfl rfl rfl rfl rfl rfl EC.out (.cons .head (.cons .head .nil)) (find_spec p g s.given no ks _ 201 (.inl ⟨hm, rfl, rfl⟩)) ?_
    rintro u M ⟨rfl, rfl⟩
    (refine hx_plain rfl ?_; refine h_move rfl rfl rfl rfl ?_; refine hx_plain rfl ?_; refine h_extract rfl rfl rfl rfl rfl ?_; refine hx_plain rfl ?_; refine h_extract rfl rfl rfl rfl rfl ?_; refine hx_plain rfl ?_; (refine h_alloc rfl rfl IC.zero rfl rfl rfl (fun _ => ?_)); refine hx_plain rfl ?_; refine h_store rfl rfl rfl rfl rfl rfl IC.size .head rfl rfl (Nat.le_of_ble_eq_true rfl) (List.all_eq_true.1 rfl) ?_; refine hx_plain rfl ?_; refine h_assign rfl rfl rfl rfl ?_; refine hx_nil ?_; refine hq_then ?_; refine hc_seq ?_; refine hc_seq ?_; refine hc_lex ?_; refine hx_plain rfl ?_; refine h_move rfl rfl rfl rfl ?_; refine hx_plain rfl ?_; refine h_cmp rfl rfl rfl rfl rfl rfl ?_; refine hx_nil ?_; refine hq_then ?_; refine hc_condT rfl ?_; refine hc_seq ?_; refine hc_lex ?_; refine hx_plain rfl ?_; refine h_move rfl rfl rfl rfl ?_; refine hx_plain rfl ?_; refine h_assign rfl rfl rfl rfl ?_; refine hx_plain rfl ?_; refine h_assign rfl rfl rfl rfl ?_; refine hx_nil ?_; refine hq_then ?_; refine hc_ret ?_; refine hq_ret_then ?_)
    refine hq_ret2 (.inr rfl) rfl rfl rfl ⟨by unfold NS.copied; rw [hf, NS.errOf_none hf], rfl⟩ (fun _ h => ?_)
    unfold NS.copy
    rw [hf]
    exact NetO_shut hl (h.sub (.cons (.tail .head) (.cons (.tail .head) (.cons (.tail .head) .nil))))
  · have hqd : q.f.data.length ≤ 140737488355200 := hd _ (List.mem_iff_getElem?.2 ⟨k, hsk⟩)
    (refine hc_seq ?_; refine hc_lex ?_; refine hx_plain rfl ?_; refine h_assign rfl rfl rfl rfl ?_; refine hx_plain rfl ?_; refine h_assign rfl rfl rfl rfl ?_; refine hx_nil ?_; refine hq_then ?_; refine hc_seq ?_; refine hc_lex ?_; refine hx_plain rfl ?_; refine h_move rfl rfl rfl rfl ?_; refine hx_plain rfl ?_; refine h_move rfl rfl rfl rfl ?_; refine hx_plain rfl ?_)
    refine h_call rfl rfl rfl rfl rfl rfl rfl rfl EC.out (.cons .head (.cons .head .nil)) (find_spec p g s.given no ks _ 0 (.inr ⟨q.f.to, q.sl, hm, rfl, rfl⟩)) ?_
    rintro u M ⟨rfl, rfl⟩
    (refine hx_plain rfl ?_; refine h_move rfl rfl rfl rfl ?_; refine hx_plain rfl ?_; refine h_extract rfl rfl rfl rfl rfl ?_; refine hx_plain rfl ?_; refine h_extract rfl rfl rfl rfl rfl ?_; refine hx_plain rfl ?_; (refine h_alloc rfl rfl IC.zero rfl rfl rfl (fun _ => ?_)); refine hx_plain rfl ?_; refine h_store rfl rfl rfl rfl rfl rfl IC.size .head rfl rfl (Nat.le_of_ble_eq_true rfl) (List.all_eq_true.1 rfl) ?_; refine hx_plain rfl ?_; refine h_assign rfl rfl rfl rfl ?_; refine hx_nil ?_; refine hq_then ?_; refine hc_seq ?_; refine hc_seq ?_; refine hc_lex ?_; refine hx_plain rfl ?_; refine h_move rfl rfl rfl rfl ?_; refine hx_plain rfl ?_; refine h_cmp rfl rfl rfl rfl rfl rfl ?_; refine hx_nil ?_; refine hq_then ?_; refine hc_condF rfl ?_; refine hc_skip ?_; refine hq_then ?_; refine hc_seq ?_; refine hc_lex ?_; refine hx_plain rfl ?_; refine h_move rfl rfl rfl rfl ?_; refine hx_plain rfl ?_; refine h_load2 rfl rfl UC.out rfl IC.size .head rfl rfl rfl rfl ?_; refine hx_plain rfl ?_)
    refine h_call rfl rfl rfl rfl rfl rfl rfl rfl EC.out (.cons (.tail .head) (.cons (.tail .head) (.cons (.tail .head) .nil))) (sendQ (to := q.f.to) hok hgiv hl hk hqd) ?_
    rintro u M ⟨rfl, rfl⟩
    (refine hx_plain rfl ?_; refine h_assign rfl rfl rfl rfl ?_; refine hx_plain rfl ?_; refine h_assign rfl rfl rfl rfl ?_; refine hx_nil ?_; refine hq_then ?_; refine hc_ret ?_)
    refine hq_ret2 (.inr rfl) rfl rfl rfl ⟨by unfold NS.copied; rw [hf, NS.errOf_some hf], rfl⟩ (fun _ h => ?_)
    unfold NS.copy
    rw [hf]
    exact h.sub (.cons .head .nil)
end Go.Proofs.Ytbfmmgbfliebhaa
