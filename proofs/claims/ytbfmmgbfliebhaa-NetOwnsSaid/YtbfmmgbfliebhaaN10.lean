import Derived.Test.YtbfmmgbfliebhaaN9
namespace Go.Proofs.Ytbfmmgbfliebhaa
open Go Go.Proofs
set_option maxRecDepth 4000

theorem rdrop_spec {p : Nat} {s : NS} (no : Int) (hok : s.Ok) :
    Spec Try.prog 40 [.pointer (some ⟨p, 0, none⟩), .int .i64 no] [NtR p s] (fun u M => u = .int .i64 (s.errOf no) ∧ M = [NtR p (s.del no)]) := by
  refine spec_of Try.func40 rfl rfl (Nat.le_of_ble_eq_true rfl) (fun w F => ?_)
  (refine hc_seq ?_; refine hc_lex ?_; refine hx_plain rfl ?_; refine h_assign rfl rfl rfl rfl ?_; refine hx_nil ?_; refine hq_then ?_; refine hc_seq ?_; refine hc_lex ?_; refine hx_plain rfl ?_; refine h_move rfl rfl rfl rfl ?_; refine hx_plain rfl ?_; refine h_move rfl rfl rfl rfl ?_; refine hx_plain rfl ?_)
  refine h_call rfl rfl rfl rfl rfl rfl rfl rfl EC.out (.cons .head .nil) (rtake_spec no hok) ?_
  rintro u M (⟨hf, rfl, rfl⟩ | ⟨f, sl, hf, rfl, rfl⟩)
  · rw [NS.errOf_none hf, NS.del_none hf]
    (refine hx_plain rfl ?_; refine h_move rfl rfl rfl rfl ?_; refine hx_plain rfl ?_; refine h_extract rfl rfl rfl rfl rfl ?_; refine hx_plain rfl ?_; refine h_extract rfl rfl rfl rfl rfl ?_; refine hx_plain rfl ?_; (refine h_alloc rfl rfl IC.zero rfl rfl rfl (fun _ => ?_)); refine hx_plain rfl ?_; refine h_store rfl rfl rfl rfl rfl rfl IC.size .head rfl rfl (Nat.le_of_ble_eq_true rfl) (List.all_eq_true.1 rfl) ?_; refine hx_plain rfl ?_; refine h_assign rfl rfl rfl rfl ?_; refine hx_nil ?_; refine hq_then ?_; refine hc_seq ?_; refine hc_lex ?_; refine hx_plain rfl ?_; refine h_move rfl rfl rfl rfl ?_; refine hx_plain rfl ?_; refine h_assign rfl rfl rfl rfl ?_; refine hx_nil ?_; refine hq_then ?_; refine hc_ret ?_)
    refine hq_ret1 (.inr rfl) rfl rfl ⟨rfl, rfl⟩ (fun _ h => ?_)
    (refine St.sub ?_ h; refine .cons (.tail .head) ?_; exact .nil)
  · rw [NS.errOf_some hf]
    (refine hx_plain rfl ?_; refine h_move rfl rfl rfl rfl ?_; refine hx_plain rfl ?_; refine h_extract rfl rfl rfl rfl rfl ?_; refine hx_plain rfl ?_; refine h_extract rfl rfl rfl rfl rfl ?_; refine hx_plain rfl ?_; (refine h_alloc rfl rfl IC.zero rfl rfl rfl (fun _ => ?_)); refine hx_plain rfl ?_; refine h_store rfl rfl rfl rfl rfl rfl IC.size .head rfl rfl (Nat.le_of_ble_eq_true rfl) (List.all_eq_true.1 rfl) ?_; refine hx_plain rfl ?_; refine h_assign rfl rfl rfl rfl ?_; refine hx_nil ?_; refine hq_then ?_; refine hc_seq ?_; refine hc_lex ?_; refine hx_plain rfl ?_; refine h_move rfl rfl rfl rfl ?_; refine hx_plain rfl ?_; refine h_assign rfl rfl rfl rfl ?_; refine hx_nil ?_; refine hq_then ?_; refine hc_ret ?_)
    refine hq_ret1 (.inr rfl) rfl rfl ⟨rfl, rfl⟩ (fun _ h => ?_)
    (refine St.sub ?_ h; refine .cons (.tail (.tail .head)) ?_; exact .nil)
theorem ref_few {qs : List QF} {s : NS} (hok : s.Ok) (hl : qs.map (·.f) = s.l) : qs.length ≤ 4096 := by
  have := hok.few
  rw [← hl, List.length_map] at this
  exact this
set_option maxHeartbeats 1000000 in
theorem rcopy_spec {p : Nat} {s : NS} (no : Int) (hok : s.Ok) (hgiv : s.given ≤ 4611686018427387904) (hd : ∀ f ∈ s.l, f.data.length ≤ 140737488355200) :
    Spec Try.prog 41 [.pointer (some ⟨p, 0, none⟩), .int .i64 no] [NtR p s] (fun u M => u = .tuple #[.int .i64 (s.copied no), .int .i64 (s.errOf no)] ∧ M = [NtR p (s.copy no)]) := by
  refine spec_of Try.func41 rfl rfl (Nat.le_of_ble_eq_true rfl) (fun w F => ?_)
  refine hc_openP .head NtR_open ?_
  rintro ⟨v, qs⟩ hl
  dsimp only at hl ⊢
  have hfew := ref_few hok hl
  unfold NS.copied NS.copy
  (refine hc_seq ?_; refine hc_lex ?_; refine hx_plain rfl ?_; refine h_assign rfl rfl rfl rfl ?_; refine hx_plain rfl ?_; refine h_assign rfl rfl rfl rfl ?_; refine hx_nil ?_; refine hq_then ?_; refine hc_seq ?_; refine hc_lex ?_; refine hx_plain rfl ?_; refine h_move rfl rfl rfl rfl ?_; refine hx_plain rfl ?_; refine h_move rfl rfl rfl rfl ?_; refine hx_plain rfl ?_)
  refine h_call rfl rfl rfl rfl rfl rfl rfl rfl EC.out (.cons .head (.cons .head .nil)) (at_spec no hl hfew) ?_
  rintro u M ⟨rfl, rfl⟩
  rcases ref_find hl no with ⟨hf, ha⟩ | ⟨k, q, hk, hsk, hno, hf, ha⟩
  · rw [ha, hf]
    (refine hx_plain rfl ?_; refine h_assign rfl rfl rfl rfl ?_; refine hx_nil ?_; refine hq_then ?_; refine hc_seq ?_; refine hc_seq ?_; refine hc_lex ?_; refine hx_plain rfl ?_; refine h_move rfl rfl rfl rfl ?_; refine hx_plain rfl ?_; refine h_cmp rfl rfl rfl rfl rfl rfl ?_; refine hx_nil ?_; refine hq_then ?_; refine hc_condT rfl ?_; refine hc_seq ?_; refine hc_lex ?_; refine hx_plain rfl ?_; refine h_assign rfl rfl rfl rfl ?_; refine hx_plain rfl ?_; refine h_assign rfl rfl rfl rfl ?_; refine hx_nil ?_; refine hq_then ?_; refine hc_ret ?_; refine hq_ret_then ?_)
    refine hq_ret2 (.inr rfl) rfl rfl rfl ⟨by rw [NS.errOf_none hf], rfl⟩ (fun _ h => ?_)
    exact NtR_shut hl (h.sub (.cons .head (.cons .head (.cons .head .nil))))
  rw [ha, hf]
  have hkl := (List.getElem?_eq_some_iff.1 hk).1
  have hqd : q.f.data.length ≤ 140737488355200 := hd _ (List.mem_iff_getElem?.2 ⟨k, hsk⟩)
  (refine hx_plain rfl ?_; refine h_assign rfl rfl rfl rfl ?_; refine hx_nil ?_; refine hq_then ?_)
  refine hc_rowV (.tail .head) ?_ ?_
  · intro _ e
    rw [e] at hkl
    exact absurd hkl (Nat.not_lt_zero _)
  rintro g cap rfl
  have e1 : qs[((k : Nat) : Int).toNat]? = some q := hk
  (refine hc_seq ?_; refine hc_seq ?_; refine hc_lex ?_; refine hx_plain rfl ?_; refine h_move rfl rfl rfl rfl ?_; refine hx_plain rfl ?_; refine h_cmp rfl rfl rfl rfl rfl rfl ?_; refine hx_nil ?_; refine hq_then ?_; refine hc_condF rfl ?_; refine hc_skip ?_; refine hq_then ?_; refine hc_seq ?_)
  refine hc_draw0 (by kernel_rfl) (by kernel_rfl) ?_
  (refine hx_plain rfl ?_; refine h_move rfl rfl rfl rfl ?_; refine hx_plain rfl ?_; refine h_move rfl rfl rfl rfl ?_; refine hx_plain rfl ?_; refine h_nilCheck rfl rfl rfl rfl ?_; refine hx_plain rfl ?_; refine h_fieldAddr0 rfl rfl FC.out rfl rfl ?_; refine hx_plain rfl ?_; refine h_load rfl rfl UC.out rfl (.tail .head) rfl rfl rfl ?_; refine hx_plain rfl ?_; refine h_move rfl rfl rfl rfl ?_; refine hx_plain rfl ?_; refine h_rowAddr rfl rfl rfl UC.out IC.size (by omega) (by omega) rfl rfl ?_; refine hx_plain rfl ?_; refine h_fieldAddr rfl rfl FC.out rfl rfl ?_; refine hx_plain rfl ?_; refine h_rowLoad rfl .head rfl UC.out rfl (by with_reducible assumption) rfl rfl rfl ?_; refine hx_plain rfl ?_; refine h_move rfl rfl rfl rfl ?_; refine hx_plain rfl ?_; refine h_nilCheck rfl rfl rfl rfl ?_; refine hx_plain rfl ?_; refine h_fieldAddr0 rfl rfl FC.out rfl rfl ?_; refine hx_plain rfl ?_; refine h_load rfl rfl UC.out rfl (.tail .head) rfl rfl rfl ?_; refine hx_plain rfl ?_; refine h_move rfl rfl rfl rfl ?_; refine hx_plain rfl ?_; refine h_rowAddr rfl rfl rfl UC.out IC.size (by omega) (by omega) rfl rfl ?_; refine hx_plain rfl ?_; refine h_fieldAddr rfl rfl FC.out rfl rfl ?_; refine hx_plain rfl ?_; refine h_rowLoad rfl .head rfl UC.out rfl (by with_reducible assumption) rfl rfl rfl ?_; refine hx_plain rfl ?_; refine h_build rfl inferInstance rfl rfl rfl rfl ?_; refine hx_plain rfl ?_)
  refine hx1_conv rfl rfl (C' := St w F [rfB p (.slice (some ⟨g, 0, none⟩) qs.length cap) s.given, rfL (.slice (some ⟨g, 0, none⟩) qs.length cap) qs, netR qs]) (fun _ h => ?_) ?_
  · exact (St.rowV_mk (h.pulls (.cons .head (.cons .head (.cons .head .nil))))).perm (List.Perm.swap _ _ _)
  refine h_call rfl rfl rfl rfl rfl rfl rfl rfl EC.out (.cons .head (.cons .head (.cons .head .nil))) (rsendQ (to := q.f.to) hok hgiv hl hk hqd) ?_
  rintro u M ⟨rfl, rfl⟩
  (refine hx_plain rfl ?_; refine h_assign rfl rfl rfl rfl ?_; refine hx_nil ?_; refine hq_then ?_; refine hc_seq ?_; refine hc_lex ?_; refine hx_plain rfl ?_; refine h_move rfl rfl rfl rfl ?_; refine hx_plain rfl ?_; refine h_assign rfl rfl rfl rfl ?_; refine hx_plain rfl ?_; refine h_assign rfl rfl rfl rfl ?_; refine hx_nil ?_; refine hq_then ?_; refine hc_ret ?_)
  refine hq_ret2 (.inr rfl) rfl rfl rfl ⟨by rw [NS.errOf_some hf], rfl⟩ (fun _ h => ?_)
  exact h.sub (.cons .head .nil)
theorem rows_back {ks : List QF} {k : Nat} {q : QF} (hk : ks[k]? = some q) {w w0 : World} {F0 : Nat → Prop} {R : List Asn} (h : St w0 F0 (QF.row q :: netR (ks.eraseIdx k) :: R) w) : St w0 F0 (netR ks :: R) w :=
  shl_perm (M' := ks.map QF.row) (((shl_erase hk).map QF.row).symm) (shl_mk h)
theorem rows_put {ks : List QF} {k : Nat} {q q' : QF} (hk : ks[k]? = some q) {w w0 : World} {F0 : Nat → Prop} {R : List Asn} (h : St w0 F0 (QF.row q' :: netR (ks.eraseIdx k) :: R) w) : St w0 F0 (netR (ks.set k q') :: R) w := by
  have hl := (List.getElem?_eq_some_iff.1 hk).1
  have hk2 : (ks.set k q')[k]? = some q' := by rw [List.getElem?_set, if_pos rfl, if_pos hl]
  refine rows_back hk2 ?_
  rw [set_eraseIdx]
  exact h
/-- The list of flights says nothing of their data. -/
theorem row_data {T : Nat} {v : Value} {qs qs' : List QF} (he : qs'.map qfE.enc = qs.map qfE.enc) {w w0 : World} {F0 : Nat → Prop} {R : List Asn} (h : St w0 F0 (RowV qfE T v qs :: R) w) : St w0 F0 (RowV qfE T v qs' :: R) w := by
  have hlen : qs'.length = qs.length := by have := congrArg List.length he; simpa using this
  refine h.map (A := RowV qfE T v qs) (B := RowV qfE T v qs') (fun F hF => ?_)
  rcases hF with ⟨e, e2, e3⟩ | ⟨g, cap, e, h1, cur, h2, h3, h4, h5, h6⟩
  · subst e2
    exact .inl ⟨e, List.eq_nil_of_length_eq_zero hlen, e3⟩
  · refine .inr ⟨g, cap, by rw [hlen]; exact e, h1, cur, h2, by rw [hlen]; exact h3, h4, h5, fun i x hx j u hu => ?_⟩
    have hi := congrArg (fun l => l[i]?) he
    simp only [List.getElem?_map, hx, Option.map_some] at hi
    cases hq : qs[i]? with
    | none => rw [hq] at hi; cases hi
    | some q =>
      rw [hq] at hi
      have : qfE.enc x = qfE.enc q := Option.some.inj hi
      rw [this] at hu
      exact h6 i q hq j u hu
theorem set_enc {qs : List QF} {k : Nat} {q q' : QF} (hk : qs[k]? = some q) (he : qfE.enc q' = qfE.enc q) : (qs.set k q').map qfE.enc = qs.map qfE.enc := by
  rw [List.map_set, he]
  apply List.ext_getElem?
  intro j
  rw [List.getElem?_set]
  split
  · rename_i e
    subst e
    rw [if_pos (by rw [List.length_map]; exact (List.getElem?_eq_some_iff.1 hk).1), List.getElem?_map, hk]
    rfl
  · rfl
set_option maxHeartbeats 2000000 in
theorem rflip_spec {p : Nat} {s : NS} (no at_ v : Int) (hok : s.Ok) :
    Spec Try.prog 42 [.pointer (some ⟨p, 0, none⟩), .int .i64 no, .int .i64 at_, .int .i64 v] [NtR p s] (fun u M => u = .int .i64 (s.flipE no at_ v) ∧ M = [NtR p (s.flip no at_ v)]) := by
  refine spec_of Try.func42 rfl rfl (Nat.le_of_ble_eq_true rfl) (fun w F => ?_)
  refine hc_openP .head NtR_open ?_
  rintro ⟨vl, qs⟩ hl
  dsimp only at hl ⊢
  have hfew := ref_few hok hl
  unfold NS.flipE NS.flip
  (refine hc_seq ?_; refine hc_lex ?_; refine hx_plain rfl ?_; refine h_assign rfl rfl rfl rfl ?_; refine hx_nil ?_; refine hq_then ?_; refine hc_seq ?_; refine hc_lex ?_; refine hx_plain rfl ?_; refine h_move rfl rfl rfl rfl ?_; refine hx_plain rfl ?_; refine h_move rfl rfl rfl rfl ?_; refine hx_plain rfl ?_)
  refine h_call rfl rfl rfl rfl rfl rfl rfl rfl EC.out (.cons .head (.cons .head .nil)) (at_spec no hl hfew) ?_
  rintro u M ⟨rfl, rfl⟩
  rcases ref_find hl no with ⟨hf, ha⟩ | ⟨k, q, hk, hsk, hno, hf, ha⟩
  · rw [ha, hf]
    (refine hx_plain rfl ?_; refine h_assign rfl rfl rfl rfl ?_; refine hx_nil ?_; refine hq_then ?_; refine hc_seq ?_; refine hc_seq ?_; refine hc_lex ?_; refine hx_plain rfl ?_; refine h_move rfl rfl rfl rfl ?_; refine hx_plain rfl ?_; refine h_cmp rfl rfl rfl rfl rfl rfl ?_; refine hx_nil ?_; refine hq_then ?_; refine hc_condT rfl ?_; refine hc_seq ?_; refine hc_lex ?_; refine hx_plain rfl ?_; refine h_assign rfl rfl rfl rfl ?_; refine hx_nil ?_; refine hq_then ?_; refine hc_ret ?_; refine hq_ret_then ?_)
    refine hq_ret1 (.inr rfl) rfl rfl ⟨rfl, rfl⟩ (fun _ h => ?_)
    exact NtR_shut hl (h.sub (.cons .head (.cons .head (.cons .head .nil))))
  rw [ha, hf]
  dsimp only
  have hkl := (List.getElem?_eq_some_iff.1 hk).1
  obtain ⟨f, sa, sn, sc⟩ := q
  dsimp only at hno hf hsk ⊢
  (refine hx_plain rfl ?_; refine h_assign rfl rfl rfl rfl ?_; refine hx_nil ?_; refine hq_then ?_)
  refine hc_st (C' := St w F [rfL vl qs, rfB p vl s.given, QF.row ⟨f, sa, sn, sc⟩, netR (qs.eraseIdx k)]) (fun _ h => (rows_erase hk (h.pulls (.cons (.tail (.tail .head)) (.cons .head (.cons .head .nil))))).pulls (.cons (.tail (.tail (.tail .head))) (.cons (.tail (.tail .head)) (.cons .head (.cons .head .nil))))) ?_
  refine hc_know (fun _ h => St.rowV_shapeS h (.tail (.tail .head))) ?_
  rintro ⟨a', c', e⟩
  injection e with _ e2 _
  dsimp only at e2
  subst e2
  refine hc_rowV .head ?_ ?_
  · intro _ e
    rw [e] at hkl
    exact absurd hkl (Nat.not_lt_zero _)
  rintro g cap rfl
  have e1 : qs[((k : Nat) : Int).toNat]? = some ⟨f, sa, f.data.length, sc⟩ := hk
  have shut : ∀ {w' : World}, St w F [Row qfE 52 g cap qs, rfB p (.slice (some ⟨g, 0, none⟩) qs.length cap) s.given, QF.row ⟨f, sa, f.data.length, sc⟩, netR (qs.eraseIdx k)] w' → St w F [NtR p s] w' := fun h => by
    have h1 := rows_back hk (h.rowV_mk.pulls (.cons (.tail (.tail .head)) (.cons (.tail (.tail .head)) (.cons (.tail .head) (.cons .head .nil)))))
    exact NtR_shut hl (h1.pulls (.cons (.tail .head) (.cons (.tail .head) (.cons .head .nil))))
  by_cases hat : at_ < 0 ∨ (f.data.length : Int) ≤ at_
  · rw [flipE_at hat, if_neg (by decide)]
    (refine hc_seq ?_; refine hc_seq ?_; refine hc_lex ?_; refine hx_plain rfl ?_; refine h_move rfl rfl rfl rfl ?_; refine hx_plain rfl ?_; refine h_cmp rfl rfl rfl rfl rfl rfl ?_; refine hx_nil ?_; refine hq_then ?_; refine hc_condF rfl ?_; refine hc_skip ?_; refine hq_then ?_; refine hc_seq ?_; refine hc_seq ?_; refine hc_lex ?_; refine hx_plain rfl ?_; refine h_move rfl rfl rfl rfl ?_; refine hx_plain rfl ?_; refine h_cmp rfl rfl rfl rfl rfl rfl ?_; refine hx_plain rfl ?_; refine h_move rfl rfl rfl rfl ?_; refine hx_gcaseD rfl rfl rfl (fun hc => ?_) (fun hc => ?_); refine hx_skip rfl rfl rfl rfl rfl rfl ?_; refine hx_skip rfl rfl rfl rfl rfl rfl ?_; refine hx_skip rfl rfl rfl rfl rfl rfl ?_; refine hx_skip rfl rfl rfl rfl rfl rfl ?_; refine hx_skip rfl rfl rfl rfl rfl rfl ?_; refine hx_skip rfl rfl rfl rfl rfl rfl ?_; refine hx_skip rfl rfl rfl rfl rfl rfl ?_; refine hx_skip rfl rfl rfl rfl rfl rfl ?_; refine hx_skip rfl rfl rfl rfl rfl rfl ?_; refine hx_skip rfl rfl rfl rfl rfl rfl ?_; refine hx_skip rfl rfl rfl rfl rfl rfl ?_; refine hx_plain rfl ?_; refine h_pickT rfl rfl rfl rfl rfl ?_; refine hx_nil ?_; refine hq_then ?_; refine hc_condT rfl ?_; refine hc_seq ?_; refine hc_lex ?_; refine hx_plain rfl ?_; refine h_assign rfl rfl rfl rfl ?_; refine hx_nil ?_; refine hq_then ?_; refine hc_ret ?_; refine hq_ret_then ?_; rotate_left; refine hx_yes rfl rfl rfl ?_; refine h_move rfl rfl rfl rfl ?_; refine hx_yes rfl rfl rfl ?_; refine h_move rfl rfl rfl rfl ?_; refine hx_yes rfl rfl rfl ?_; refine h_nilCheck rfl rfl rfl rfl ?_; refine hx_yes rfl rfl rfl ?_; refine h_fieldAddr0 rfl rfl FC.out rfl rfl ?_; refine hx_yes rfl rfl rfl ?_; refine h_load rfl rfl UC.out rfl (.tail .head) rfl rfl rfl ?_; refine hx_yes rfl rfl rfl ?_; refine h_move rfl rfl rfl rfl ?_; refine hx_yes rfl rfl rfl ?_; refine h_rowAddr rfl rfl rfl UC.out IC.size (by omega) (by omega) rfl rfl ?_; refine hx_yes rfl rfl rfl ?_; refine h_fieldAddr rfl rfl FC.out rfl rfl ?_; refine hx_yes rfl rfl rfl ?_; refine h_rowLoad rfl .head rfl UC.out rfl (by with_reducible assumption) rfl rfl rfl ?_; refine hx_yes rfl rfl rfl ?_; refine h_len_slice rfl rfl rfl UC.out rfl rfl rfl ?_; refine hx_yes rfl rfl rfl ?_; refine h_cmp rfl rfl rfl rfl rfl rfl ?_; refine hx_plain rfl ?_; refine h_pickF rfl rfl rfl rfl rfl ?_; refine hx_nil ?_; refine hq_then ?_; refine hc_condD rfl (fun hc => ?_) (fun hc => ?_); refine hc_seq ?_; refine hc_lex ?_; refine hx_plain rfl ?_; refine h_assign rfl rfl rfl rfl ?_; refine hx_nil ?_; refine hq_then ?_; refine hc_ret ?_; refine hq_ret_then ?_; rotate_left; refine hc_skip ?_; refine hq_then ?_; refine hc_seq ?_; refine hc_seq ?_; refine hc_lex ?_; refine hx_plain rfl ?_; refine h_move rfl rfl rfl rfl ?_; refine hx_plain rfl ?_; refine h_cmp rfl rfl rfl rfl rfl rfl ?_; refine hx_plain rfl ?_; refine h_move rfl rfl rfl rfl ?_; refine hx_gcaseD rfl rfl rfl (fun hc => ?_) (fun hc => ?_); refine hx_skip rfl rfl rfl rfl rfl rfl ?_; refine hx_skip rfl rfl rfl rfl rfl rfl ?_; refine hx_plain rfl ?_; refine h_pickT rfl rfl rfl rfl rfl ?_; refine hx_nil ?_; refine hq_then ?_; refine hc_condT rfl ?_; refine hc_seq ?_; refine hc_lex ?_; refine hx_plain rfl ?_; refine h_assign rfl rfl rfl rfl ?_; refine hx_nil ?_; refine hq_then ?_; refine hc_ret ?_; refine hq_ret_then ?_; rotate_left; refine hx_yes rfl rfl rfl ?_; refine h_move rfl rfl rfl rfl ?_; refine hx_yes rfl rfl rfl ?_; refine h_cmp rfl rfl rfl rfl rfl rfl ?_; refine hx_plain rfl ?_; refine h_pickF rfl rfl rfl rfl rfl ?_; refine hx_nil ?_; refine hq_then ?_; refine hc_condD rfl (fun hc => ?_) (fun hc => ?_); refine hc_seq ?_; refine hc_lex ?_; refine hx_plain rfl ?_; refine h_assign rfl rfl rfl rfl ?_; refine hx_nil ?_; refine hq_then ?_; refine hc_ret ?_; refine hq_ret_then ?_; rotate_left; refine hc_skip ?_; refine hq_then ?_; refine hc_seq ?_; rotate_left)
    all_goals first
      | exact hq_ret1 (.inr rfl) rfl rfl ⟨rfl, rfl⟩ (fun _ h => shut h)
      | (exfalso; dsimp only at *; rcases hat with h | h <;> omega)
  by_cases hv : v < 1 ∨ 255 < v
  · rw [flipE_v hat hv, if_neg (by decide)]
    (refine hc_seq ?_; refine hc_seq ?_; refine hc_lex ?_; refine hx_plain rfl ?_; refine h_move rfl rfl rfl rfl ?_; refine hx_plain rfl ?_; refine h_cmp rfl rfl rfl rfl rfl rfl ?_; refine hx_nil ?_; refine hq_then ?_; refine hc_condF rfl ?_; refine hc_skip ?_; refine hq_then ?_; refine hc_seq ?_; refine hc_seq ?_; refine hc_lex ?_; refine hx_plain rfl ?_; refine h_move rfl rfl rfl rfl ?_; refine hx_plain rfl ?_; refine h_cmp rfl rfl rfl rfl rfl rfl ?_; refine hx_plain rfl ?_; refine h_move rfl rfl rfl rfl ?_; refine hx_gF rfl rfl rfl (by omega) ?_; refine hx_yes rfl rfl rfl ?_; refine h_move rfl rfl rfl rfl ?_; refine hx_yes rfl rfl rfl ?_; refine h_move rfl rfl rfl rfl ?_; refine hx_yes rfl rfl rfl ?_; refine h_nilCheck rfl rfl rfl rfl ?_; refine hx_yes rfl rfl rfl ?_; refine h_fieldAddr0 rfl rfl FC.out rfl rfl ?_; refine hx_yes rfl rfl rfl ?_; refine h_load rfl rfl UC.out rfl (.tail .head) rfl rfl rfl ?_; refine hx_yes rfl rfl rfl ?_; refine h_move rfl rfl rfl rfl ?_; refine hx_yes rfl rfl rfl ?_; refine h_rowAddr rfl rfl rfl UC.out IC.size (by omega) (by omega) rfl rfl ?_; refine hx_yes rfl rfl rfl ?_; refine h_fieldAddr rfl rfl FC.out rfl rfl ?_; refine hx_yes rfl rfl rfl ?_; refine h_rowLoad rfl .head rfl UC.out rfl (by with_reducible assumption) rfl rfl rfl ?_; refine hx_yes rfl rfl rfl ?_; refine h_len_slice rfl rfl rfl UC.out rfl rfl rfl ?_; refine hx_yes rfl rfl rfl ?_; refine h_cmp rfl rfl rfl rfl rfl rfl ?_; refine hx_plain rfl ?_; refine h_pickF rfl rfl rfl rfl rfl ?_; refine hx_nil ?_; refine hq_then ?_; refine hc_condD rfl (fun hc => ?_) (fun hc => ?_); refine hc_seq ?_; refine hc_lex ?_; refine hx_plain rfl ?_; refine h_assign rfl rfl rfl rfl ?_; refine hx_nil ?_; refine hq_then ?_; refine hc_ret ?_; refine hq_ret_then ?_; rotate_left; refine hc_skip ?_; refine hq_then ?_; refine hc_seq ?_; refine hc_seq ?_; refine hc_lex ?_; refine hx_plain rfl ?_; refine h_move rfl rfl rfl rfl ?_; refine hx_plain rfl ?_; refine h_cmp rfl rfl rfl rfl rfl rfl ?_; refine hx_plain rfl ?_; refine h_move rfl rfl rfl rfl ?_; refine hx_gcaseD rfl rfl rfl (fun hc => ?_) (fun hc => ?_); refine hx_skip rfl rfl rfl rfl rfl rfl ?_; refine hx_skip rfl rfl rfl rfl rfl rfl ?_; refine hx_plain rfl ?_; refine h_pickT rfl rfl rfl rfl rfl ?_; refine hx_nil ?_; refine hq_then ?_; refine hc_condT rfl ?_; refine hc_seq ?_; refine hc_lex ?_; refine hx_plain rfl ?_; refine h_assign rfl rfl rfl rfl ?_; refine hx_nil ?_; refine hq_then ?_; refine hc_ret ?_; refine hq_ret_then ?_; rotate_left; refine hx_yes rfl rfl rfl ?_; refine h_move rfl rfl rfl rfl ?_; refine hx_yes rfl rfl rfl ?_; refine h_cmp rfl rfl rfl rfl rfl rfl ?_; refine hx_plain rfl ?_; refine h_pickF rfl rfl rfl rfl rfl ?_; refine hx_nil ?_; refine hq_then ?_; refine hc_condDT rfl (by omega) ?_; refine hc_seq ?_; refine hc_lex ?_; refine hx_plain rfl ?_; refine h_assign rfl rfl rfl rfl ?_; refine hx_nil ?_; refine hq_then ?_; refine hc_ret ?_; refine hq_ret_then ?_; rotate_left)
    all_goals first
      | exact hq_ret1 (.inr rfl) rfl rfl ⟨rfl, rfl⟩ (fun _ h => shut h)
      | (exfalso; dsimp only at *; rcases hv with h | h <;> omega)
  rw [flipE_ok hat hv, if_pos rfl]
  refine hc_rowV (.tail (.tail .head)) ?_ ?_
  · intro _ e
    rw [e] at hat
    exact absurd (by rw [List.length_nil]; omega) hat
  rintro gd capd e
  injection e with e2 e3 e4
  dsimp only at e2 e3 e4
  subst e2 e4
  obtain ⟨x0, hx0⟩ : ∃ x, f.data[at_.toNat]? = some x := ⟨_, List.getElem?_eq_getElem (by omega)⟩
  (refine hc_seq ?_; refine hc_seq ?_; refine hc_lex ?_; refine hx_plain rfl ?_; refine h_move rfl rfl rfl rfl ?_; refine hx_plain rfl ?_; refine h_cmp rfl rfl rfl rfl rfl rfl ?_; refine hx_nil ?_; refine hq_then ?_; refine hc_condF rfl ?_; refine hc_skip ?_; refine hq_then ?_; refine hc_seq ?_; refine hc_seq ?_; refine hc_lex ?_; refine hx_plain rfl ?_; refine h_move rfl rfl rfl rfl ?_; refine hx_plain rfl ?_; refine h_cmp rfl rfl rfl rfl rfl rfl ?_; refine hx_plain rfl ?_; refine h_move rfl rfl rfl rfl ?_; refine hx_gF rfl rfl rfl (by omega) ?_; refine hx_yes rfl rfl rfl ?_; refine h_move rfl rfl rfl rfl ?_; refine hx_yes rfl rfl rfl ?_; refine h_move rfl rfl rfl rfl ?_; refine hx_yes rfl rfl rfl ?_; refine h_nilCheck rfl rfl rfl rfl ?_; refine hx_yes rfl rfl rfl ?_; refine h_fieldAddr0 rfl rfl FC.out rfl rfl ?_; refine hx_yes rfl rfl rfl ?_; refine h_load rfl rfl UC.out rfl (.tail (.tail .head)) rfl rfl rfl ?_; refine hx_yes rfl rfl rfl ?_; refine h_move rfl rfl rfl rfl ?_; refine hx_yes rfl rfl rfl ?_; refine h_rowAddr rfl rfl rfl UC.out IC.size (by omega) (by omega) rfl rfl ?_; refine hx_yes rfl rfl rfl ?_; refine h_fieldAddr rfl rfl FC.out rfl rfl ?_; refine hx_yes rfl rfl rfl ?_; refine h_rowLoad rfl (.tail .head) rfl UC.out rfl (by with_reducible assumption) rfl rfl rfl ?_; refine hx_yes rfl rfl rfl ?_; refine h_len_slice rfl rfl rfl UC.out rfl rfl rfl ?_; refine hx_yes rfl rfl rfl ?_; refine h_cmp rfl rfl rfl rfl rfl rfl ?_; refine hx_plain rfl ?_; refine h_pickF rfl rfl rfl rfl rfl ?_; refine hx_nil ?_; refine hq_then ?_; refine hc_condD rfl (fun hc => ?_) (fun hc => ?_); refine hc_seq ?_; refine hc_lex ?_; refine hx_plain rfl ?_; refine h_assign rfl rfl rfl rfl ?_; refine hx_nil ?_; refine hq_then ?_; refine hc_ret ?_; refine hq_ret_then ?_; rotate_left; refine hc_skip ?_; refine hq_then ?_; refine hc_seq ?_; refine hc_seq ?_; refine hc_lex ?_; refine hx_plain rfl ?_; refine h_move rfl rfl rfl rfl ?_; refine hx_plain rfl ?_; refine h_cmp rfl rfl rfl rfl rfl rfl ?_; refine hx_plain rfl ?_; refine h_move rfl rfl rfl rfl ?_; refine hx_gF rfl rfl rfl (by omega) ?_; refine hx_yes rfl rfl rfl ?_; refine h_move rfl rfl rfl rfl ?_; refine hx_yes rfl rfl rfl ?_; refine h_cmp rfl rfl rfl rfl rfl rfl ?_; refine hx_plain rfl ?_; refine h_pickF rfl rfl rfl rfl rfl ?_; refine hx_nil ?_; refine hq_then ?_; refine hc_condDF rfl (by omega) ?_; refine hc_skip ?_; refine hq_then ?_; refine hc_seq ?_; rotate_left)
  any_goals (exfalso; dsimp only at *; omega)
  refine hc_drawV (fun i => Nat.beq i 24) [0, 1, 2, 3, 4, 5, 6, 7, 8, 9, 10, 11, 12, 13, 14, 15, 16, 17, 18, 19, 20, 21, 22, 23, 24] (fun _ => false) (by kernel_rfl) (by kernel_rfl) rfl ?_
  (refine hx_plain rfl ?_; refine h_move rfl rfl rfl rfl ?_; refine hx_plain rfl ?_; refine h_nilCheck rfl rfl rfl rfl ?_; refine hx_plain rfl ?_; refine h_fieldAddr0 rfl rfl FC.out rfl rfl ?_; refine hx_plain rfl ?_; refine h_load rfl rfl UC.out rfl (.tail (.tail .head)) rfl rfl rfl ?_; refine hx_plain rfl ?_; refine h_move rfl rfl rfl rfl ?_; refine hx_plain rfl ?_; refine h_rowAddr rfl rfl rfl UC.out IC.size (by omega) (by omega) rfl rfl ?_; refine hx_plain rfl ?_; refine h_fieldAddr rfl rfl FC.out rfl rfl ?_; refine hx_plain rfl ?_; refine h_rowLoad rfl (.tail .head) rfl UC.out rfl (by with_reducible assumption) rfl rfl rfl ?_; refine hx_plain rfl ?_; refine h_move rfl rfl rfl rfl ?_; refine hx_plain rfl ?_; refine h_move rfl rfl rfl rfl ?_; refine hx_plain rfl ?_; refine h_nilCheck rfl rfl rfl rfl ?_; refine hx_plain rfl ?_; refine h_fieldAddr0 rfl rfl FC.out rfl rfl ?_; refine hx_plain rfl ?_; refine h_load rfl rfl UC.out rfl (.tail (.tail .head)) rfl rfl rfl ?_; refine hx_plain rfl ?_; refine h_move rfl rfl rfl rfl ?_; refine hx_plain rfl ?_; refine h_rowAddr rfl rfl rfl UC.out IC.size (by omega) (by omega) rfl rfl ?_; refine hx_plain rfl ?_; refine h_fieldAddr rfl rfl FC.out rfl rfl ?_; refine hx_plain rfl ?_; refine h_rowLoad rfl (.tail .head) rfl UC.out rfl (by with_reducible assumption) rfl rfl rfl ?_; refine hx_plain rfl ?_; refine h_move rfl rfl rfl rfl ?_; refine hx_plain rfl ?_; refine h_rowAddr rfl rfl rfl UC.out IC.size (by omega) (by omega) rfl rfl ?_; refine hx_plain rfl ?_; refine h_rowLoad1 rfl .head rfl UC.out rfl (by with_reducible assumption) rfl rfl rfl ?_; refine hx_plain rfl ?_; refine h_move rfl rfl rfl rfl ?_; refine hx_plain rfl ?_; refine h_convInt rfl rfl UC.out UC.out rfl rfl ?_; refine hx_plain rfl ?_; refine h_bits rfl rfl rfl rfl rfl rfl ?_; refine hx_plain rfl ?_; refine h_rowAddr rfl rfl rfl UC.out IC.size (by omega) (by omega) rfl rfl ?_; refine hx_plain rfl ?_)
  refine h_rowStoreN (E := byteE) (i := at_.toNat) (z := xorV x0 v) rfl rfl rfl .head rfl rfl rfl IC.size hx0 rfl rfl ?_
  (refine hx_nil ?_; refine hq_then ?_; refine hc_seq ?_; refine hc_lex ?_; refine hx_plain rfl ?_; refine h_assign rfl rfl rfl rfl ?_; refine hx_nil ?_; refine hq_then ?_; refine hc_ret ?_)
  refine hq_ret1 (.inr rfl) rfl rfl ⟨rfl, rfl⟩ (fun w' h => ?_)
  have h1 := (show St w F (Row byteE 5 gd sc (f.data.set at_.toNat (xorV x0 v)) :: _) w' from h).rowV_mk
  rw [List.length_set] at h1
  have hd : f.data.set at_.toNat (xorV x0 v) = flipD f.data at_ v := by unfold flipD; rw [hx0]; rfl
  rw [hd] at h1
  have h2 : St w F (QF.row ⟨⟨f.no, f.to, flipD f.data at_ v⟩, ⟨some ⟨gd, 0, none⟩, f.data.length, sc⟩⟩ :: netR (qs.eraseIdx k) :: Row qfE 52 g cap qs :: rfB p (.slice (some ⟨g, 0, none⟩) qs.length cap) s.given :: []) w' := h1.pulls (.cons .head (.cons (.tail (.tail .head)) (.cons .head (.cons .head .nil))))
  have h3 := rows_put hk h2
  have h4 := (h3.perm (List.Perm.swap _ _ _)).rowV_mk
  have h5 := row_data (set_enc (q' := ⟨⟨f.no, f.to, flipD f.data at_ v⟩, ⟨some ⟨gd, 0, none⟩, f.data.length, sc⟩⟩) hk rfl) h4
  refine NtR_shut (qs := qs.set k ⟨⟨f.no, f.to, flipD f.data at_ v⟩, ⟨some ⟨gd, 0, none⟩, f.data.length, sc⟩⟩) ?_ (h5.pulls (.cons (.tail (.tail .head)) (.cons .head (.cons .head .nil))))
  rw [List.map_set, hl, ← hno, NS.upd_at hok hsk]
set_option maxHeartbeats 2000000 in
theorem runder_spec {p : Nat} {s : NS} (hok : s.Ok) (hd : ∀ f ∈ s.l, f.data.length ≤ 140737488355200) :
    Spec Try.prog 21 [.pointer (some ⟨p, 0, none⟩)] [NtR p s] (fun u M => M = [FlO u s.l, NtR p s]) := by
  refine spec_of Try.func21 rfl rfl (Nat.le_of_ble_eq_true rfl) (fun w F => ?_)
  refine hc_openP .head NtR_open ?_
  rintro ⟨vl, qs⟩ hl
  dsimp only at hl ⊢
  have hfew := ref_few hok hl
  (refine hc_seq ?_; refine hc_lex ?_; refine hx_plain rfl ?_; refine h_assign rfl rfl rfl rfl ?_; refine hx_nil ?_; refine hq_then ?_; refine hc_seq ?_; refine hc_lex ?_; refine hx_plain rfl ?_; refine h_assign rfl rfl rfl rfl ?_; refine hx_nil ?_; refine hq_then ?_; refine hc_seq ?_; refine hc_seq ?_; refine hc_lex ?_; refine hx_plain rfl ?_; refine h_assign rfl rfl rfl rfl ?_; refine hx_nil ?_; refine hq_then ?_; refine hc_block ?_)
  refine hc_cut (id := 0) (Y := List QF × Value) (fun y => [(3, y.2)]) (fun y => [rfL y.2 y.1, netR y.1, rfB p vl s.given, rfL vl qs, netR qs]) (fun y => y.1.map (·.f) = s.l) ?_ ?_
  · refine hc_loop (X := Nat × List QF × Value) (fun x => [(0, .pointer (some ⟨p, 0, none⟩)), (3, x.2.2), (4, .int .i64 (x.1 : Int))]) (fun x => [rfL x.2.2 x.2.1, netR x.2.1, rfB p vl s.given, rfL vl qs, netR qs]) (fun x => x.1 ≤ qs.length ∧ x.2.1.map (·.f) = (qs.take x.1).map (·.f)) (fun x => qs.length - x.1) (0, [], .slice none 0 0) (.cons rfl (.cons rfl (.cons rfl .nil))) ⟨Nat.zero_le _, rfl⟩ (fun w' h => ?_) ?_
    · have h2 : St w F (netR [] :: [rfB p vl s.given, rfL vl qs, netR qs]) w' := St.all.2 h
      exact h2.rowV_nil
    rintro ⟨i, out, v⟩ ⟨hi, ho⟩
    dsimp only at hi ho ⊢
    have hol : out.length = i := by
      have := congrArg List.length ho
      rw [List.length_map, List.length_map, List.length_take] at this
      omega
    by_cases hlt : i < qs.length
    · obtain ⟨q, hq⟩ : ∃ q, qs[i]? = some q := ⟨_, List.getElem?_eq_getElem hlt⟩
      have hqm : q ∈ qs := List.mem_iff_getElem?.2 ⟨i, hq⟩
      have hqd : q.f.data.length ≤ 140737488355200 := hd _ (by rw [← hl]; exact List.mem_map_of_mem hqm)
      have e1 : qs[((i : Nat) : Int).toNat]? = some q := hq
      refine hc_rowV (.tail (.tail (.tail .head))) ?_ ?_
      · intro _ e
        rw [e] at hlt
        exact absurd hlt (Nat.not_lt_zero _)
      rintro g cap rfl
      (refine hc_seq ?_; refine hc_seq ?_; refine hc_lex ?_; refine hx_plain rfl ?_; refine h_move rfl rfl rfl rfl ?_; refine hx_plain rfl ?_; refine h_move rfl rfl rfl rfl ?_; refine hx_plain rfl ?_; refine h_nilCheck rfl rfl rfl rfl ?_; refine hx_plain rfl ?_; refine h_fieldAddr0 rfl rfl FC.out rfl rfl ?_; refine hx_plain rfl ?_; refine h_load rfl rfl UC.out rfl (.tail (.tail (.tail .head))) rfl rfl rfl ?_; refine hx_plain rfl ?_; refine h_len_slice rfl rfl rfl UC.out rfl rfl rfl ?_; refine hx_plain rfl ?_; refine h_cmp rfl rfl rfl rfl rfl rfl ?_; refine hx_nil ?_; refine hq_then ?_; refine hc_condDT rfl (by omega) ?_; refine hc_skip ?_; refine hq_then ?_; refine hc_seq ?_; refine hc_block ?_; refine hc_seq ?_; refine hc_lex ?_; refine hx_plain rfl ?_; refine h_move rfl rfl rfl rfl ?_; refine hx_plain rfl ?_; refine h_nilCheck rfl rfl rfl rfl ?_; refine hx_plain rfl ?_; refine h_fieldAddr0 rfl rfl FC.out rfl rfl ?_; refine hx_plain rfl ?_; refine h_load rfl rfl UC.out rfl (.tail (.tail (.tail .head))) rfl rfl rfl ?_; refine hx_plain rfl ?_; refine h_move rfl rfl rfl rfl ?_; refine hx_plain rfl ?_; refine h_rowAddr rfl rfl rfl UC.out IC.size (by omega) (by omega) rfl rfl ?_; refine hx_plain rfl ?_; refine h_rowLoadN rfl .head rfl UC.out rfl IC.size (by with_reducible assumption) rfl rfl rfl ?_; refine hx_plain rfl ?_; (refine h_alloc rfl rfl IC.zero rfl rfl rfl (fun _ => ?_)); refine hx_plain rfl ?_; refine h_store rfl rfl rfl rfl rfl rfl IC.size .head rfl rfl (Nat.le_of_ble_eq_true rfl) (List.all_eq_true.1 rfl) ?_; refine hx_nil ?_; refine hq_then ?_; refine hc_seq ?_; refine hc_lex ?_; refine hx_plain rfl ?_; refine h_move rfl rfl rfl rfl ?_; refine hx_plain rfl ?_; refine h_nilCheck rfl rfl rfl rfl ?_; refine hx_plain rfl ?_; refine h_fieldAddr0 rfl rfl FC.out rfl rfl ?_; refine hx_plain rfl ?_; refine h_load rfl rfl UC.out rfl (.tail (.tail (.tail (.tail .head)))) rfl rfl rfl ?_; refine hx_plain rfl ?_; refine h_move rfl rfl rfl rfl ?_; refine hx_plain rfl ?_; refine h_rowAddr rfl rfl rfl UC.out IC.size (by omega) (by omega) rfl rfl ?_; refine hx_plain rfl ?_; refine h_fieldAddr rfl rfl FC.out rfl rfl ?_; refine hx_plain rfl ?_; refine h_rowLoad rfl (.tail .head) rfl UC.out rfl (by with_reducible assumption) rfl rfl rfl ?_; refine hx_plain rfl ?_)
      refine h_callW (post := fun u M => ∃ s : SlV, u = s.v ∧ M = [RowV byteE 5 s.v q.f.data]) rfl rfl rfl rfl rfl rfl rfl rfl EC.out (fun w' h => (bytes_makes (rows_mem hqm (h.pull (by first | exact .head | exact (.tail .head) | exact (.tail (.tail .head)) | exact (.tail (.tail (.tail .head))) | exact (.tail (.tail (.tail (.tail .head)))) | exact (.tail (.tail (.tail (.tail (.tail .head))))) | exact (.tail (.tail (.tail (.tail (.tail (.tail .head)))))) | exact (.tail (.tail (.tail (.tail (.tail (.tail (.tail .head))))))) | exact (.tail (.tail (.tail (.tail (.tail (.tail (.tail (.tail .head)))))))) | exact (.tail (.tail (.tail (.tail (.tail (.tail (.tail (.tail (.tail .head)))))))))))) hqd).slV) ?_
      rintro u M ⟨sl, rfl, rfl⟩
      (refine hx_plain rfl ?_; refine h_fieldAddr0 rfl rfl FC.out rfl rfl ?_; refine hx_plain rfl ?_; refine h_store rfl rfl rfl rfl rfl rfl IC.size (.tail .head) rfl rfl (Nat.le_of_ble_eq_true rfl) (List.all_eq_true.1 rfl) ?_; refine hx_nil ?_; refine hq_then ?_; refine hc_lex ?_; refine hx_plain rfl ?_; refine h_move rfl rfl rfl rfl ?_; refine hx_plain rfl ?_; refine h_loadP rfl rfl UC.out rfl IC.size .head rfl rfl rfl rfl ?_; refine hx_plain rfl ?_; (refine h_buildSlice rfl rfl rfl UC.out IC.size IC.zero rfl rfl (by intro v hv; simp at hv; first | (subst hv; rfl) | (rcases hv with rfl | rfl <;> rfl) | (rcases hv with rfl | rfl | rfl <;> rfl)) (by omega) rfl rfl (fun _ => ?_)); refine hx_plain rfl ?_)
      refine h_append (m := 1) (E := qfE) (T := 52) (xs := out) (ys := [⟨q.f, sl⟩]) rfl rfl rfl rfl rfl UC.out IC.out rfl (.cons (.tail (.tail (.tail (.tail .head)))) (.cons .head .nil)) rfl (one_row qfE _) (by unfold maxLen; omega) (by omega) rfl rfl (fun v' _ => ?_)
      (refine hx_plain rfl ?_; refine h_assign rfl rfl rfl rfl ?_; refine hx_nil ?_; refine hq_norm_block ?_; refine hq_then ?_; refine hc_lex ?_; refine hx_plain rfl ?_; refine h_move rfl rfl rfl rfl ?_; refine hx_plain rfl ?_; refine h_arithI rfl rfl rfl rfl (by omega) rfl rfl ?_; refine hx_plain rfl ?_; refine h_assign rfl rfl rfl rfl ?_; refine hx_nil ?_)
      refine hq_round (i + 1, out ++ [⟨q.f, sl⟩], v') (by show qs.length - (i + 1) < qs.length - i; omega) ⟨by show i + 1 ≤ qs.length; omega, ?_⟩ (.cons rfl (.cons rfl (.cons rfl .nil))) (fun w' h => ?_)
      · dsimp only
        obtain ⟨_, rfl⟩ := List.getElem?_eq_some_iff.1 hq
        rw [take_succ1 hlt, List.map_append, List.map_append, ho]
        rfl
      · have h1 : St w F (netR out :: QF.row ⟨q.f, sl⟩ :: Row qfE 52 g cap qs :: rfL v' (out ++ [⟨q.f, sl⟩]) :: rfB p (.slice (some ⟨g, 0, none⟩) qs.length cap) s.given :: netR qs :: []) w' := h.sub (.cons (.tail (.tail (.tail (.tail (.tail .head))))) (.cons (.tail (.tail (.tail .head))) (.cons (.tail (.tail (.tail .head))) (.cons .head (.cons (.tail (.tail .head)) (.cons (.tail (.tail .head)) .nil))))))
        have h2 := shl_snoc h1
        have h3 : St w F (netR (out ++ [⟨q.f, sl⟩]) :: Row qfE 52 g cap qs :: rfL v' (out ++ [⟨q.f, sl⟩]) :: rfB p (.slice (some ⟨g, 0, none⟩) qs.length cap) s.given :: netR qs :: []) w' := by
          unfold netR
          rw [List.map_append (l₁ := out)]
          exact h2
        exact (h3.perm (List.Perm.swap _ _ _)).rowV_mk.pulls (.cons (.tail (.tail .head)) (.cons (.tail .head) (.cons (.tail .head) (.cons .head (.cons .head .nil)))))
    · obtain rfl : i = qs.length := by omega
      (refine hc_seq ?_; refine hc_seq ?_; refine hc_lex ?_; refine hx_plain rfl ?_; refine h_move rfl rfl rfl rfl ?_; refine hx_plain rfl ?_; refine h_move rfl rfl rfl rfl ?_; refine hx_plain rfl ?_; refine h_nilCheck rfl rfl rfl rfl ?_; refine hx_plain rfl ?_; refine h_fieldAddr0 rfl rfl FC.out rfl rfl ?_; refine hx_plain rfl ?_; refine h_load rfl rfl UC.out rfl (.tail (.tail .head)) rfl rfl rfl ?_; refine hx_plain rfl ?_)
      refine h_lenV rfl rfl (.tail (.tail (.tail .head))) rfl UC.out rfl rfl rfl ?_
      (refine hx_plain rfl ?_; refine h_cmp rfl rfl rfl rfl rfl rfl ?_; refine hx_nil ?_; refine hq_then ?_; refine hc_condDF rfl (by omega) ?_; refine hc_exit ?_; refine hq_exit_then ?_; refine hq_exit_then ?_)
      refine hq_cut (out, v) ?_ (.cons rfl .nil) (fun w' h => h)
      dsimp only
      rw [ho, List.take_length, hl]
  · rintro ⟨out, v⟩ ho
    dsimp only at ho ⊢
    (refine hq_exit_block ?_; refine hq_then ?_; refine hc_seq ?_; refine hc_lex ?_; refine hx_plain rfl ?_; refine h_move rfl rfl rfl rfl ?_; refine hx_plain rfl ?_; refine h_assign rfl rfl rfl rfl ?_; refine hx_nil ?_; refine hq_then ?_; refine hc_ret ?_)
    refine hq_ret1 (.inr rfl) rfl rfl rfl (fun w' h => ?_)
    have h3 := FlO_shut ho h
    exact (NtR_shut hl (h3.pulls (.cons (.tail .head) (.cons (.tail .head) (.cons (.tail .head) (.cons .head .nil)))))).perm (List.Perm.swap _ _ _)
end Go.Proofs.Ytbfmmgbfliebhaa
