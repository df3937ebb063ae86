import Derived.Test.YtbfmmgbfliebhaaN7
namespace Go.Proofs.Ytbfmmgbfliebhaa
open Go Go.Proofs
set_option maxRecDepth 4000

theorem Makes.slV' {X : Type} {E : Elem X} {T : Nat} {P : Program} {f : FuncId} {args : List Value} {w : World} {xs : List X} (h : Makes P f args w (fun u M => M = [RowV E T u xs])) : Makes P f args w (fun u M => ∃ s : SlV, u = s.v ∧ M = [RowV E T s.v xs]) := Makes.slV h
set_option maxHeartbeats 1000000 in
theorem rsend_calls {w : World} {F : Nat → Prop} {p : Nat} {to : Int} {s : NS} {v0 : Value} {ks : List QF} {A : List Asn} {v : Value} {d : List Int} (hok : s.Ok) (hgiv : s.given ≤ 4611686018427387904) (hl : ks.map (·.f) = s.l) (hd : d.length ≤ 140737488355200)
    (hrd : ∀ L w', St w F (L ++ netR ks :: A) w' → Rd byteE w' v d) (hs : Star w (rfB p v0 s.given :: rfL v0 ks :: netR ks :: A) F) :
    Calls Try.prog 18 [.pointer (some ⟨p, 0, none⟩), .agg #[.int .i64 to, v]].toArray w (bodyR w F (fun u M => u = .int .i64 s.sent ∧ M = NtR p (s.send to d) :: A)) := by
  refine spec_at Try.func18 rfl rfl (Nat.le_of_ble_eq_true rfl) hs ?_
  have hlen : ks.length = s.l.length := by rw [← hl, List.length_map]
  have hfew := hok.few
  have hg0 := hok.g0
  (refine hc_seq ?_; refine hc_lex ?_; refine hx_plain rfl ?_; (refine h_box rfl rfl rfl rfl rfl rfl (fun _ => ?_)); refine hx_plain rfl ?_; refine h_assign rfl rfl rfl rfl ?_; refine hx_nil ?_; refine hq_then ?_; refine hc_seq ?_; refine hc_seq ?_; refine hc_lex ?_; refine hx_plain rfl ?_; refine h_move rfl rfl rfl rfl ?_; refine hx_plain rfl ?_; refine h_nilCheck rfl rfl rfl rfl ?_; refine hx_plain rfl ?_; refine h_fieldAddr0 rfl rfl FC.out rfl rfl ?_; refine hx_plain rfl ?_; refine h_load rfl rfl UC.out rfl (.tail .head) rfl rfl rfl ?_; refine hx_plain rfl ?_)
  refine h_lenV rfl rfl (.tail (.tail .head)) rfl UC.out rfl rfl rfl ?_
  (refine hx_plain rfl ?_; refine h_cmp rfl rfl rfl rfl rfl rfl ?_; refine hx_nil ?_; refine hq_then ?_; refine hc_condD rfl (fun hc => ?_) (fun hc => ?_); refine hc_seq ?_; refine hc_lex ?_; refine hx_plain rfl ?_; refine h_assign rfl rfl rfl rfl ?_; refine hx_nil ?_; refine hq_then ?_; refine hc_ret ?_; refine hq_ret_then ?_; rotate_left; refine hc_skip ?_; refine hq_then ?_; refine hc_seq ?_; refine hc_lex ?_; refine hx_plain rfl ?_; refine h_move rfl rfl rfl rfl ?_; refine hx_plain rfl ?_; refine h_nilCheck rfl rfl rfl rfl ?_; refine hx_plain rfl ?_; refine h_fieldAddr0 rfl rfl FC.out rfl rfl ?_; refine hx_plain rfl ?_; refine h_load rfl rfl UC.out rfl (.tail .head) rfl rfl rfl ?_; refine hx_plain rfl ?_; refine h_arithI rfl rfl rfl rfl (by omega) rfl rfl ?_; refine hx_plain rfl ?_; refine h_nilCheck rfl rfl rfl rfl ?_; refine hx_plain rfl ?_; refine h_fieldAddr0 rfl rfl FC.out rfl rfl ?_; refine hx_plain rfl ?_; refine h_store rfl rfl rfl rfl rfl rfl IC.size (.tail .head) rfl rfl (Nat.le_of_ble_eq_true rfl) (List.all_eq_true.1 rfl) ?_; refine hx_nil ?_; refine hq_then ?_; refine hc_seq ?_; rotate_left)
  · have hfull : ¬ s.l.length < 4096 := by omega
    refine hq_ret1 (.inr rfl) rfl rfl ⟨by unfold NS.sent; rw [if_neg hfull], rfl⟩ (fun _ h => ?_)
    unfold NS.send
    rw [if_neg hfull]
    exact NtR_shut hl ((h.pulls (.cons (.tail .head) (.cons (.tail .head) (.cons (.tail .head) .nil)))).pull (.tail (.tail (.tail .head)))).drop
  have hroom : s.l.length < 4096 := by omega
  rename_i b
  refine hc_drawO [0, 1, 2, 3, 4, 5, 6, 7, 8, 9, 10, 11, 12, 13, 14, 15, 16, 17, 18, 19] (fun i => Nat.beq i 13 || Nat.beq i 15) (by kernel_rfl) (by kernel_rfl) rfl ?_
  (refine hx_plain rfl ?_; refine h_move rfl rfl rfl rfl ?_; refine hx_plain rfl ?_; refine h_move rfl rfl rfl rfl ?_; refine hx_plain rfl ?_; refine h_nilCheck rfl rfl rfl rfl ?_; refine hx_plain rfl ?_; refine h_fieldAddr0 rfl rfl FC.out rfl rfl ?_; refine hx_plain rfl ?_; refine h_load rfl rfl UC.out rfl .head rfl rfl rfl ?_; refine hx_plain rfl ?_; refine h_move rfl rfl rfl rfl ?_; refine hx_plain rfl ?_; refine h_nilCheck rfl rfl rfl rfl ?_; refine hx_plain rfl ?_; refine h_fieldAddr0 rfl rfl FC.out rfl rfl ?_; refine hx_plain rfl ?_; refine h_load rfl rfl UC.out rfl .head rfl rfl rfl ?_; refine hx_plain rfl ?_; refine h_fieldAddr0 rfl rfl FC.out rfl rfl ?_; refine hx_plain rfl ?_; refine h_load rfl rfl UC.out rfl (.tail .head) rfl rfl rfl ?_; refine hx_plain rfl ?_; refine h_fieldAddr0 rfl rfl FC.out rfl rfl ?_; refine hx_plain rfl ?_; refine h_load rfl rfl UC.out rfl (.tail .head) rfl rfl rfl ?_; refine hx_plain rfl ?_)
  refine h_callWk (post := fun u M => ∃ s : SlV, u = s.v ∧ M = [RowV byteE 5 s.v d]) rfl rfl rfl rfl rfl rfl rfl EC.out (fun w' h => (bytes_makes (hrd [_, _, _] w' h) hd).slV) ?_
  rintro u M ⟨sl, rfl, rfl⟩
  (refine hx_plain rfl ?_; refine h_build rfl inferInstance rfl rfl rfl rfl ?_; refine hx_plain rfl ?_)
  refine h_buildSliceW rfl rfl UC.out IC.size IC.zero rfl rfl (by intro v hv; simp at hv; subst hv; rfl) (by omega) rfl rfl (fun b2 => ?_)
  (refine hx_plain rfl ?_)
  refine h_appendR (m := 1) (E := qfE) (T := 52) (xs := ks) (ys := [⟨⟨s.given + 1, to, d⟩, sl⟩]) rfl rfl rfl rfl rfl UC.out IC.out rfl (.cons (.tail (.tail (.tail (.tail .head)))) (.cons .head .nil)) rfl rfl (one_row qfE _) (by unfold maxLen; omega) (by omega) rfl rfl (fun g' cap' => ?_)
  (refine hx_plain rfl ?_; refine h_nilCheck rfl rfl rfl rfl ?_; refine hx_plain rfl ?_; refine h_fieldAddr0 rfl rfl FC.out rfl rfl ?_; refine hx_plain rfl ?_; refine h_store rfl rfl rfl rfl rfl rfl IC.size (.tail (.tail (.tail .head))) rfl rfl (Nat.le_of_ble_eq_true rfl) (List.all_eq_true.1 rfl) ?_; refine hx_nil ?_; refine hq_then ?_; refine hc_seq ?_; refine hc_lex ?_; refine hx_plain rfl ?_; refine h_move rfl rfl rfl rfl ?_; refine hx_plain rfl ?_; refine h_nilCheck rfl rfl rfl rfl ?_; refine hx_plain rfl ?_; refine h_fieldAddr0 rfl rfl FC.out rfl rfl ?_; refine hx_plain rfl ?_; refine h_load rfl rfl UC.out rfl .head rfl rfl rfl ?_; refine hx_plain rfl ?_; refine h_assign rfl rfl rfl rfl ?_; refine hx_nil ?_; refine hq_then ?_; refine hc_ret ?_)
  refine hq_ret1 (.inr rfl) rfl rfl ⟨by unfold NS.sent; rw [if_pos hroom], rfl⟩ (fun w' h => ?_)
  replace h := (show St w F (Row qfE 52 g' cap' _ :: _) w' from h.pull (.tail .head)).rowV_mk
  have h1 : St w F (Blk b2 _ :: Blk b (.cells #[.int .i64 to, v] 37 (0, 0)) :: netR ks :: QF.row ⟨⟨s.given + 1, to, d⟩, sl⟩ :: rfB p (.slice (some ⟨g', 0, none⟩) (ks ++ [(⟨⟨s.given + 1, to, d⟩, sl⟩ : QF)]).length cap') (s.given + 1) :: rfL (.slice (some ⟨g', 0, none⟩) (ks ++ [(⟨⟨s.given + 1, to, d⟩, sl⟩ : QF)]).length cap') (ks ++ [⟨⟨s.given + 1, to, d⟩, sl⟩]) :: A) w' := h.pulls (.cons (.tail (.tail .head)) (.cons (.tail (.tail (.tail .head))) (.cons (.tail (.tail (.tail .head))) (.cons (.tail (.tail .head)) (.cons (.tail .head) (.cons .head .nil))))))
  have hq3 := shl_snoc h1.drop.drop
  unfold NS.send
  rw [if_pos hroom]
  refine NtR_shut (v := (.slice (some ⟨g', 0, none⟩) (ks ++ [(⟨⟨s.given + 1, to, d⟩, sl⟩ : QF)]).length cap')) (qs := ks ++ [⟨⟨s.given + 1, to, d⟩, sl⟩]) (by rw [List.map_append, hl]; rfl) ?_
  have hq4 : St w F (netR (ks ++ [⟨⟨s.given + 1, to, d⟩, sl⟩]) :: rfB p (.slice (some ⟨g', 0, none⟩) (ks ++ [(⟨⟨s.given + 1, to, d⟩, sl⟩ : QF)]).length cap') (s.given + 1) :: rfL (.slice (some ⟨g', 0, none⟩) (ks ++ [(⟨⟨s.given + 1, to, d⟩, sl⟩ : QF)]).length cap') (ks ++ [⟨⟨s.given + 1, to, d⟩, sl⟩]) :: A) w' := by
    unfold netR
    rw [List.map_append]
    exact hq3
  exact hq4.pulls (.cons (.tail .head) (.cons (.tail .head) (.cons .head .nil)))
theorem rsendA {p : Nat} {to : Int} {s : NS} {A0 : Asn} {v : Value} {d : List Int} (hok : s.Ok) (hgiv : s.given ≤ 4611686018427387904) (hd : d.length ≤ 140737488355200) (hA : ∀ w F, A0.p w F → Rd byteE w v d) :
    Spec Try.prog 18 [.pointer (some ⟨p, 0, none⟩), .agg #[.int .i64 to, v]] [NtR p s, A0] (fun u M => u = .int .i64 s.sent ∧ M = [NtR p (s.send to d), A0]) := fun w F hs => by
  obtain ⟨x, hl, h2⟩ := NtR_open w w F [A0] (St.start hs)
  exact rsend_calls (A := [A0]) hok hgiv hl hd (fun L w' h => by
    have h3 : St w F (netR x.2 :: A0 :: L) w' := h.perm List.perm_append_comm
    obtain ⟨G, hG⟩ := h3.get (.tail .head)
    exact hA w' G hG) (St.toStar h2)
theorem rsendB {w1 : World} {p : Nat} {to : Int} {s : NS} {v : Value} {d : List Int} (hok : s.Ok) (hgiv : s.given ≤ 4611686018427387904) (hr : Rd byteE w1 v d) (hd : d.length ≤ 140737488355200) :
    SpecB Try.prog w1 18 [.pointer (some ⟨p, 0, none⟩), .agg #[.int .i64 to, v]] [NtR p s] (fun u M => u = .int .i64 s.sent ∧ M = [NtR p (s.send to d)]) := fun w F hs hB hF => by
  obtain ⟨x, hl, h2⟩ := NtR_open w w F [] (St.start hs)
  exact rsend_calls (A := []) hok hgiv hl hd (fun L w' h => hr.but (h.butB hB hF)) (St.toStar h2)
theorem rsendQ {p : Nat} {v : Value} {to : Int} {s : NS} {ks : List QF} {k : Nat} {q : QF} (hok : s.Ok) (hgiv : s.given ≤ 4611686018427387904) (hl : ks.map (·.f) = s.l) (hk : ks[k]? = some q) (hd : q.f.data.length ≤ 140737488355200) :
    Spec Try.prog 18 [.pointer (some ⟨p, 0, none⟩), .agg #[.int .i64 to, q.sl.v]] [rfB p v s.given, rfL v ks, netR ks] (fun u M => u = .int .i64 s.sent ∧ M = [NtR p (s.send to q.f.data)]) := fun w F hs =>
  rsend_calls (A := []) hok hgiv hl hd (fun L w' h => by
    have h3 : St w F (netR ks :: ([] ++ L)) w' := h.perm List.perm_append_comm
    exact (rows_erase hk h3).rdRowV .head) hs
/-- What at tells. -/
theorem ref_find {qs : List QF} {s : NS} (hl : qs.map (·.f) = s.l) (no : Int) :
    (s.find no = none ∧ s.at no = -1) ∨ ∃ (k : Nat) (q : QF), qs[k]? = some q ∧ s.l[k]? = some q.f ∧ q.f.no = no ∧ s.find no = some q.f ∧ s.at no = (k : Int) := by
  cases hf : s.find no with
  | none => exact .inl ⟨rfl, NS.at_none hf⟩
  | some f =>
    have h1 := NS.idx_get hf
    have h2 := h1
    rw [← hl, List.getElem?_map] at h2
    cases hk : qs[s.idx no]? with
    | none => rw [hk] at h2; cases h2
    | some q =>
      rw [hk] at h2
      have e : q.f = f := Option.some.inj h2
      exact .inr ⟨s.idx no, q, hk, by rw [e]; exact h1, by rw [e]; exact (NS.find_some hf).2, by rw [e], NS.at_some hf⟩
theorem take_erase_ne {α : Type} {l : List α} {i k : Nat} (hi : i < l.length) (hne : i ≠ k) : (l.take (i + 1)).eraseIdx k = (l.take i).eraseIdx k ++ [l[i]] := by
  have hlen : (l.take i).length = i := by rw [List.length_take]; omega
  rw [take_succ1 hi]
  rcases Nat.lt_or_ge k i with h | h
  · rw [List.eraseIdx_append_of_lt_length (by rw [hlen]; exact h)]
  · rw [List.eraseIdx_of_length_le (by rw [List.length_append, hlen]; show i + 1 ≤ k; omega), List.eraseIdx_of_length_le (by rw [hlen]; omega)]
theorem take_erase_eq {α : Type} {l : List α} {k : Nat} (hi : k < l.length) : (l.take (k + 1)).eraseIdx k = (l.take k).eraseIdx k := by
  have hlen : (l.take k).length = k := by rw [List.length_take]; omega
  have e1 : (l.take k).eraseIdx k = l.take k := List.eraseIdx_of_length_le (by rw [hlen]; exact Nat.le_refl _)
  rw [e1, take_succ1 hi, List.eraseIdx_append_of_length_le (by rw [hlen]; exact Nat.le_refl _), hlen, Nat.sub_self]
  simp
end Go.Proofs.Ytbfmmgbfliebhaa
