import Derived.Test.YtjnnlfeohbidhaaDoorBt6
namespace Go.Proofs.YtjnnlfeohbidhaaDoor
open Go Go.Proofs Go.RowKit
set_option maxRecDepth 4000

set_option maxHeartbeats 4000000 in
theorem body_panic (p g c : Nat) (bs : List Int) (at_ : Nat) (most : Int) (hb : Byts bs) (hc : bs.length ≤ c) (hl : bs.length ≤ 140737488355200) (hat : at_ ≤ bs.length) (he : bodyE bs at_ most ≠ 0) :
    SpecP Tryd.prog 63 [.pointer (some ⟨p, 0, none⟩), .int .i64 most] [rdrB p (.slice (some ⟨g, 0, none⟩) bs.length c) (at_ : Int) (at_ : Int) 0, Row byteE 5 g c bs]
      (fun ch M => ch = pan (bodyE bs at_ most) ∧ ∃ nx, M = [rdrB p (.slice (some ⟨g, 0, none⟩) bs.length c) (at_ : Int) nx 0, Row byteE 5 g c bs]) := by
  have eN := N4_nat hb at_
  have hNB := NB_lt hb at_
  have hpad := padN_lt (NB bs at_)
  refine specP_of Tryd.func63 rfl rfl (Nat.le_of_ble_eq_true rfl) (fun w F => ?_)
  refine hc_seq ?_
  refine hc_lex ?_
  (refine hx_plain rfl ?_; refine h_assign rfl rfl rfl rfl ?_; refine hx_nil ?_; refine hq_then ?_)
  refine hc_seq ?_
  by_cases h1 : bs.length < at_ + 4
  · refine hc_callP (f := 53) [_] rfl rfl rfl EC.out ?_
    (refine hx_plain rfl ?_; refine h_move rfl rfl rfl rfl ?_; refine hx_nil ?_)
    refine PanicAt.mk rfl rfl (.cons .head (.cons .head .nil)) (take_panic p g c bs _ _ at_ 4 (by omega) hl (by omega)) ?_
    rintro ch M ⟨rfl, rfl⟩
    refine hq_panic_then ?_
    exact hq_pan ⟨by unfold bodyE; rw [if_pos h1], _, rfl⟩ (fun _ h => h)
  refine hc_lex ?_
  (refine hx_plain rfl ?_; refine h_move rfl rfl rfl rfl ?_; refine hx_plain rfl ?_)
  refine h_call rfl rfl rfl rfl rfl rfl rfl rfl EC.out (.cons .head (.cons .head .nil)) (take_spec p g c bs _ _ at_ 4 (by omega) hc hl) ?_
  rintro u M ⟨rfl, rfl⟩
  (refine hx_plain rfl ?_)
  refine h_callRd rfl rfl rfl rfl rfl rfl EC.out (fun w' h => number_reads (h.rdSub (.tail .head) (by omega))) ?_
  (refine hx_plain rfl ?_; refine h_convInt rfl rfl UC.out UC.out rfl rfl ?_; refine hx_plain rfl ?_; refine h_assign rfl rfl rfl rfl ?_; refine hx_nil ?_; refine hq_then ?_)
  rw [eN, show (at_ : Int) + ((4 : Nat) : Int) = ((at_ + 4 : Nat) : Int) by omega]
  refine hc_seq ?_
  by_cases h2 : ((NB bs at_ : Nat) : Int) ≤ most
  case neg =>
    refine hc_callP (f := 54) [_, _, _] rfl rfl rfl EC.out ?_
    (refine hx_plain rfl ?_; refine h_move rfl rfl rfl rfl ?_; refine hx_plain rfl ?_; refine h_move rfl rfl rfl rfl ?_; refine hx_plain rfl ?_; refine h_cmp rfl rfl rfl rfl rfl rfl ?_; refine hx_nil ?_)
    refine PanicAt.mk rfl rfl .nil (give_panic 14 (decide_eq_false h2)) ?_
    rintro ch M ⟨rfl, rfl⟩
    refine hq_panic_then ?_
    refine hq_pan ⟨?_, _, rfl⟩ (fun _ h => h)
    have e2 : N4 bs at_ = ((NB bs at_ : Nat) : Int) := eN
    unfold bodyE
    rw [if_neg h1, if_pos (by rw [e2]; exact h2)]
  have h2' : ¬ ¬ N4 bs at_ ≤ most := fun h => h (by have e2 : N4 bs at_ = ((NB bs at_ : Nat) : Int) := eN; rw [e2]; exact h2)
  refine hc_lex ?_
  (refine hx_plain rfl ?_; refine h_move rfl rfl rfl rfl ?_; refine hx_plain rfl ?_; refine h_move rfl rfl rfl rfl ?_; refine hx_plain rfl ?_; refine h_cmp rfl rfl rfl rfl rfl rfl ?_; refine hx_plain rfl ?_)
  rw [decide_eq_true h2]
  refine h_callR rfl rfl rfl rfl rfl rfl EC.out ((give_true 14).reads _) ?_
  (refine hx_nil ?_; refine hq_then ?_)
  refine hc_seq ?_
  by_cases h3 : bs.length < at_ + 4 + NB bs at_
  · refine hc_callP (f := 53) [_, _] rfl rfl rfl EC.out ?_
    (refine hx_plain rfl ?_; refine h_move rfl rfl rfl rfl ?_; refine hx_plain rfl ?_; refine h_move rfl rfl rfl rfl ?_; refine hx_nil ?_)
    refine PanicAt.mk rfl rfl (.cons .head (.cons .head .nil)) (take_panic p g c bs _ _ (at_ + 4) (NB bs at_) (by omega) hl (by omega)) ?_
    rintro ch M ⟨rfl, rfl⟩
    refine hq_panic_then ?_
    exact hq_pan ⟨by unfold bodyE; rw [if_neg h1, if_neg h2', if_pos h3], _, rfl⟩ (fun _ h => h)
  refine hc_lex ?_
  (refine hx_plain rfl ?_; refine h_move rfl rfl rfl rfl ?_; refine hx_plain rfl ?_; refine h_move rfl rfl rfl rfl ?_; refine hx_plain rfl ?_)
  refine h_call rfl rfl rfl rfl rfl rfl rfl rfl EC.out (.cons .head (.cons .head .nil)) (take_spec p g c bs _ _ (at_ + 4) (NB bs at_) (by omega) hc hl) ?_
  rintro u M ⟨rfl, rfl⟩
  rw [show ((at_ + 4 : Nat) : Int) + ((NB bs at_ : Nat) : Int) = ((at_ + 4 + NB bs at_ : Nat) : Int) by omega]
  (refine hx_plain rfl ?_; refine h_assign rfl rfl rfl rfl ?_; refine hx_nil ?_; refine hq_then ?_)
  refine hc_seq ?_
  refine hc_seq ?_
  by_cases h4 : bs.length < at_ + 4 + NB bs at_ + padN (NB bs at_)
  · refine hc_callP (f := 53) [_, _, _] rfl rfl rfl EC.out ?_
    (refine hx_plain rfl ?_; refine h_move rfl rfl rfl rfl ?_; refine hx_plain rfl ?_; refine h_move rfl rfl rfl rfl ?_; refine hx_plain rfl ?_)
    refine h_callR rfl rfl rfl rfl rfl rfl EC.out ((padding_spec (NB bs at_) (by omega)).reads _) ?_
    (refine hx_nil ?_)
    refine PanicAt.mk rfl rfl (.cons .head (.cons .head .nil)) (take_panic p g c bs _ _ (at_ + 4 + NB bs at_) (padN (NB bs at_)) (by omega) hl (by omega)) ?_
    rintro ch M ⟨rfl, rfl⟩
    refine hq_panic_then ?_
    refine hq_panic_then ?_
    exact hq_pan ⟨by unfold bodyE; rw [if_neg h1, if_neg h2', if_neg h3, if_pos h4], _, rfl⟩ (fun _ h => h)
  have h5 : ¬ ∀ x ∈ padsOf bs at_, x = 0 := fun h5 => he (by unfold bodyE; rw [if_neg h1, if_neg h2', if_neg h3, if_neg h4, if_pos h5])
  have he15 : bodyE bs at_ most = 15 := by unfold bodyE; rw [if_neg h1, if_neg h2', if_neg h3, if_neg h4, if_neg h5]
  have hlen : (padsOf bs at_).length = padN (NB bs at_) := by unfold padsOf; rw [List.length_take, List.length_drop]; omega
  have hp0 : 0 < padN (NB bs at_) := by
    rcases Nat.eq_zero_or_pos (padN (NB bs at_)) with h | h
    · exfalso
      apply h5
      intro x hx
      rw [List.eq_nil_of_length_eq_zero (by omega : (padsOf bs at_).length = 0)] at hx
      cases hx
    · exact h
  refine hc_lex ?_
  (refine hx_plain rfl ?_; refine h_move rfl rfl rfl rfl ?_; refine hx_plain rfl ?_; refine h_move rfl rfl rfl rfl ?_; refine hx_plain rfl ?_)
  refine h_callR rfl rfl rfl rfl rfl rfl EC.out ((padding_spec (NB bs at_) (by omega)).reads _) ?_
  (refine hx_plain rfl ?_)
  refine h_call rfl rfl rfl rfl rfl rfl rfl rfl EC.out (.cons .head (.cons .head .nil)) (take_spec p g c bs _ _ (at_ + 4 + NB bs at_) (padN (NB bs at_)) (by omega) hc hl) ?_
  rintro u M ⟨rfl, rfl⟩
  rw [show ((at_ + 4 + NB bs at_ : Nat) : Int) + ((padN (NB bs at_) : Nat) : Int) = ((at_ + 4 + NB bs at_ + padN (NB bs at_) : Nat) : Int) by omega]
  obtain ⟨sv, hsv⟩ : ∃ sv, subV g c (at_ + 4) (NB bs at_) = sv := ⟨_, rfl⟩
  rw [hsv]
  rw [subV_at (g := g) (c := c) (i := at_ + 4 + NB bs at_) (n := padN (NB bs at_)) (by omega)]
  (refine hx_plain rfl ?_; refine h_len_slice rfl rfl rfl UC.out rfl rfl rfl ?_; refine hx_plain rfl ?_; refine h_move rfl rfl rfl rfl ?_; refine hx_nil ?_; refine hq_then ?_; refine hc_block ?_)
  refine hc_loop (X := Nat) (fun i => [(6, sv), (23, .slice (some ⟨g, at_ + 4 + NB bs at_, none⟩) (padN (NB bs at_)) (c - (at_ + 4 + NB bs at_))), (24, .int .i64 ((padN (NB bs at_) : Nat) : Int)), (25, .int .i64 (i : Int))]) (fun _ => [rdrB p (.slice (some ⟨g, 0, none⟩) bs.length c) (at_ : Int) ((at_ + 4 + NB bs at_ + padN (NB bs at_) : Nat) : Int) 0, Row byteE 5 g c bs]) (fun i => i ≤ padN (NB bs at_) ∧ ∀ x ∈ (padsOf bs at_).take i, x = 0) (fun i => padN (NB bs at_) - i) 0 (.cons rfl (.cons rfl (.cons rfl (.cons rfl .nil)))) ⟨Nat.zero_le _, by simp⟩ (fun _ h => h) ?_
  rintro i ⟨hi, hz0⟩
  by_cases hlt : i < padN (NB bs at_)
  · obtain ⟨y, hy, hz⟩ : ∃ y, (padsOf bs at_)[i]? = some y ∧ bs[at_ + 4 + NB bs at_ + ((i : Nat) : Int).toNat * 1]? = some y := by
      have e1 : ((i : Nat) : Int).toNat * 1 = i := by omega
      rw [e1, ← pads_get hlt (by omega)]
      rw [List.getElem?_eq_getElem (by omega)]
      exact ⟨_, rfl, rfl⟩
    refine hc_seq ?_
    refine hc_lex ?_
    (refine hx_plain rfl ?_; refine h_cmp rfl rfl rfl rfl rfl rfl ?_; refine hx_nil ?_; refine hq_then ?_)
    refine hc_seq ?_
    refine hc_condDT rfl (by omega) ?_
    refine hc_skip ?_
    refine hq_then ?_
    refine hc_seq ?_
    refine hc_block ?_
    refine hc_seq ?_
    refine hc_lex ?_
    (refine hx_plain rfl ?_; refine h_indexAddr rfl rfl rfl UC.out IC.size (by omega) (by omega) rfl rfl ?_; refine hx_plain rfl ?_)
    refine h_byteLoad rfl (.tail .head) rfl UC.out rfl hz rfl rfl ?_
    (refine hx_plain rfl ?_; refine h_assign rfl rfl rfl rfl ?_; refine hx_nil ?_; refine hq_then ?_)
    by_cases hy0 : y = 0
    · subst hy0
      refine hc_lex ?_
      (refine hx_plain rfl ?_; refine h_move rfl rfl rfl rfl ?_; refine hx_plain rfl ?_; refine h_cmp rfl rfl rfl rfl rfl rfl ?_; refine hx_plain rfl ?_)
      rw [decide_eq_true rfl]
      refine h_callR rfl rfl rfl rfl rfl rfl EC.out ((give_true 15).reads _) ?_
      (refine hx_nil ?_; refine hq_norm_block ?_; refine hq_then ?_; refine hc_lex ?_; refine hx_plain rfl ?_; refine h_arithI rfl rfl rfl rfl (by omega) rfl rfl ?_; refine hx_plain rfl ?_; refine h_move rfl rfl rfl rfl ?_; refine hx_nil ?_)
      refine hq_round (i + 1) (by omega) ⟨by omega, fun x hx => ?_⟩ (.cons rfl (.cons rfl (.cons rfl (.cons rfl .nil)))) (fun _ h => h)
      rw [List.take_succ_eq_append_getElem (by omega)] at hx
      rcases List.mem_append.1 hx with h | h
      · exact hz0 x h
      · rw [List.mem_singleton.1 h]
        have := List.getElem?_eq_getElem (show i < (padsOf bs at_).length by omega)
        rw [hy] at this
        exact (Option.some.inj this).symm
    · refine hc_callP (f := 54) [_, _] rfl rfl rfl EC.out ?_
      (refine hx_plain rfl ?_; refine h_move rfl rfl rfl rfl ?_; refine hx_plain rfl ?_; refine h_cmp rfl rfl rfl rfl rfl rfl ?_; refine hx_nil ?_)
      refine PanicAt.mk rfl rfl .nil (give_panic 15 (decide_eq_false hy0)) ?_
      rintro ch M ⟨rfl, rfl⟩
      repeat (first | with_reducible refine hq_panic_then ?_ | with_reducible refine hq_panic_block ?_)
      exact hq_pan ⟨by rw [he15], _, rfl⟩ (fun _ h => h)
  · exfalso
    apply h5
    rw [List.take_of_length_le (by omega)] at hz0
    exact hz0
end Go.Proofs.YtjnnlfeohbidhaaDoor
