import Derived.Test.YtjnnlfeohbidhaaDoorBt5
namespace Go.Proofs.YtjnnlfeohbidhaaDoor
open Go Go.Proofs Go.RowKit
set_option maxRecDepth 4000

theorem bodyE_ok {bs : List Int} {at_ : Nat} {most : Int} (h : bodyE bs at_ most = 0) : at_ + 4 ≤ bs.length ∧ N4 bs at_ ≤ most ∧ at_ + 4 + NB bs at_ ≤ bs.length ∧ at_ + 4 + NB bs at_ + padN (NB bs at_) ≤ bs.length ∧ ∀ x ∈ padsOf bs at_, x = 0 := by
  unfold bodyE at h
  split at h
  · omega
  · split at h
    · omega
    · split at h
      · omega
      · split at h
        · omega
        · split at h
          · rename_i h1 h2 h3 h4 h5
            exact ⟨by omega, Classical.not_not.1 h2, by omega, by omega, h5⟩
          · omega
theorem N4_nat {bs : List Int} (hb : Byts bs) (at_ : Nat) : IntKind.i64.wrap (numR ((bs.drop at_).take 4)) = ((NB bs at_ : Nat) : Int) := by
  have := N4_eq hb at_
  unfold NB
  show N4 bs at_ = _
  omega
theorem NB_lt {bs : List Int} (hb : Byts bs) (at_ : Nat) : NB bs at_ < 4294967296 := by
  have := N4_eq hb at_
  unfold NB
  omega
theorem pads_get {bs : List Int} {at_ i : Nat} (hi : i < padN (NB bs at_)) (_hl : at_ + 4 + NB bs at_ + padN (NB bs at_) ≤ bs.length) : (padsOf bs at_)[i]? = bs[at_ + 4 + NB bs at_ + i]? := by
  unfold padsOf
  rw [List.getElem?_take_of_lt hi, List.getElem?_drop]

set_option maxHeartbeats 2000000 in
theorem body_ok (p g c : Nat) (bs : List Int) (at_ : Nat) (most : Int) (hb : Byts bs) (hc : bs.length ≤ c) (hl : bs.length ≤ 140737488355200) (he : bodyE bs at_ most = 0) :
    Spec Tryd.prog 63 [.pointer (some ⟨p, 0, none⟩), .int .i64 most] [rdrB p (.slice (some ⟨g, 0, none⟩) bs.length c) (at_ : Int) (at_ : Int) 0, Row byteE 5 g c bs]
      (fun u M => u = subV g c (at_ + 4) (NB bs at_) ∧ M = [rdrB p (.slice (some ⟨g, 0, none⟩) bs.length c) (at_ : Int) ((at_ + 4 + NB bs at_ + padN (NB bs at_) : Nat) : Int) 0, Row byteE 5 g c bs]) := by
  obtain ⟨h1, h2, h3, h4, h5⟩ := bodyE_ok he
  have eN := N4_nat hb at_
  have hNB := NB_lt hb at_
  have h2' : ((NB bs at_ : Nat) : Int) ≤ most := by rw [← eN]; exact h2
  have hpad := padN_lt (NB bs at_)
  refine spec_of Tryd.func63 rfl rfl (Nat.le_of_ble_eq_true rfl) (fun w F => ?_)
  (refine hc_seq ?_; refine hc_lex ?_; refine hx_plain rfl ?_; refine h_assign rfl rfl rfl rfl ?_; refine hx_nil ?_; refine hq_then ?_; refine hc_seq ?_; refine hc_lex ?_; refine hx_plain rfl ?_; refine h_move rfl rfl rfl rfl ?_; refine hx_plain rfl ?_)
  refine h_call rfl rfl rfl rfl rfl rfl rfl rfl EC.out (.cons .head (.cons .head .nil)) (take_spec p g c bs _ _ at_ 4 h1 hc hl) ?_
  rintro u M ⟨rfl, rfl⟩
  (refine hx_plain rfl ?_)
  refine h_callRd rfl rfl rfl rfl rfl rfl EC.out (fun w' h => number_reads (h.rdSub (.tail .head) h1)) ?_
  (refine hx_plain rfl ?_; refine h_convInt rfl rfl UC.out UC.out rfl rfl ?_; refine hx_plain rfl ?_; refine h_assign rfl rfl rfl rfl ?_; refine hx_nil ?_; refine hq_then ?_; refine hc_seq ?_; refine hc_lex ?_; refine hx_plain rfl ?_; refine h_move rfl rfl rfl rfl ?_; refine hx_plain rfl ?_; refine h_move rfl rfl rfl rfl ?_; refine hx_plain rfl ?_; refine h_cmp rfl rfl rfl rfl rfl rfl ?_; refine hx_plain rfl ?_)
  rw [eN, decide_eq_true h2', show (at_ : Int) + ((4 : Nat) : Int) = ((at_ + 4 : Nat) : Int) by omega]
  refine h_callR rfl rfl rfl rfl rfl rfl EC.out ((give_true 14).reads _) ?_
  (refine hx_nil ?_; refine hq_then ?_; refine hc_seq ?_; refine hc_lex ?_; refine hx_plain rfl ?_; refine h_move rfl rfl rfl rfl ?_; refine hx_plain rfl ?_; refine h_move rfl rfl rfl rfl ?_; refine hx_plain rfl ?_)
  refine h_call rfl rfl rfl rfl rfl rfl rfl rfl EC.out (.cons .head (.cons .head .nil)) (take_spec p g c bs _ _ (at_ + 4) (NB bs at_) h3 hc hl) ?_
  rintro u M ⟨rfl, rfl⟩
  rw [show ((at_ + 4 : Nat) : Int) + ((NB bs at_ : Nat) : Int) = ((at_ + 4 + NB bs at_ : Nat) : Int) by omega]
  (refine hx_plain rfl ?_; refine h_assign rfl rfl rfl rfl ?_; refine hx_nil ?_; refine hq_then ?_; refine hc_seq ?_; refine hc_seq ?_; refine hc_lex ?_; refine hx_plain rfl ?_; refine h_move rfl rfl rfl rfl ?_; refine hx_plain rfl ?_; refine h_move rfl rfl rfl rfl ?_; refine hx_plain rfl ?_)
  refine h_callR rfl rfl rfl rfl rfl rfl EC.out ((padding_spec (NB bs at_) (by omega)).reads _) ?_
  (refine hx_plain rfl ?_)
  refine h_call rfl rfl rfl rfl rfl rfl rfl rfl EC.out (.cons .head (.cons .head .nil)) (take_spec p g c bs _ _ (at_ + 4 + NB bs at_) (padN (NB bs at_)) h4 hc hl) ?_
  rintro u M ⟨rfl, rfl⟩
  rw [show ((at_ + 4 + NB bs at_ : Nat) : Int) + ((padN (NB bs at_) : Nat) : Int) = ((at_ + 4 + NB bs at_ + padN (NB bs at_) : Nat) : Int) by omega]
  obtain ⟨sv, hsv⟩ : ∃ sv, subV g c (at_ + 4) (NB bs at_) = sv := ⟨_, rfl⟩
  rw [hsv]
  by_cases hp0 : 0 < padN (NB bs at_)
  · rw [subV_at (g := g) (c := c) (i := at_ + 4 + NB bs at_) (n := padN (NB bs at_)) (by omega)]
    (refine hx_plain rfl ?_; refine h_len_slice rfl rfl rfl UC.out rfl rfl rfl ?_; refine hx_plain rfl ?_; refine h_move rfl rfl rfl rfl ?_; refine hx_nil ?_; refine hq_then ?_; refine hc_block ?_)
    refine hc_cut (id := 0) (Y := Unit) (fun _ => [(6, sv)]) (fun _ => [rdrB p (.slice (some ⟨g, 0, none⟩) bs.length c) (at_ : Int) ((at_ + 4 + NB bs at_ + padN (NB bs at_) : Nat) : Int) 0, Row byteE 5 g c bs]) (fun _ => True) ?_ ?_
    · refine hc_loop (X := Nat) (fun i => [(6, sv), (23, .slice (some ⟨g, at_ + 4 + NB bs at_, none⟩) (padN (NB bs at_)) (c - (at_ + 4 + NB bs at_))), (24, .int .i64 ((padN (NB bs at_) : Nat) : Int)), (25, .int .i64 (i : Int))]) (fun _ => [rdrB p (.slice (some ⟨g, 0, none⟩) bs.length c) (at_ : Int) ((at_ + 4 + NB bs at_ + padN (NB bs at_) : Nat) : Int) 0, Row byteE 5 g c bs]) (fun i => i ≤ padN (NB bs at_)) (fun i => padN (NB bs at_) - i) 0 (.cons rfl (.cons rfl (.cons rfl (.cons rfl .nil)))) (Nat.zero_le _) (fun _ h => h) ?_
      intro i hi
      by_cases hlt : i < padN (NB bs at_)
      · have hz : bs[at_ + 4 + NB bs at_ + ((i : Nat) : Int).toNat * 1]? = some 0 := by
          have e1 : ((i : Nat) : Int).toNat * 1 = i := by omega
          rw [e1, ← pads_get hlt h4]
          have hlen : (padsOf bs at_).length = padN (NB bs at_) := by unfold padsOf; rw [List.length_take, List.length_drop]; omega
          rw [List.getElem?_eq_getElem (by omega)]
          exact congrArg some (h5 _ (List.getElem_mem _))
        (refine hc_seq ?_; refine hc_lex ?_; refine hx_plain rfl ?_; refine h_cmp rfl rfl rfl rfl rfl rfl ?_; refine hx_nil ?_; refine hq_then ?_; refine hc_seq ?_; refine hc_condDT rfl (by omega) ?_; refine hc_skip ?_; refine hq_then ?_; refine hc_seq ?_; refine hc_block ?_; refine hc_seq ?_; refine hc_lex ?_; refine hx_plain rfl ?_; refine h_indexAddr rfl rfl rfl UC.out IC.size (by omega) (by omega) rfl rfl ?_; refine hx_plain rfl ?_)
        refine h_byteLoad rfl (.tail .head) rfl UC.out rfl hz rfl rfl ?_
        (refine hx_plain rfl ?_; refine h_assign rfl rfl rfl rfl ?_; refine hx_nil ?_; refine hq_then ?_; refine hc_lex ?_; refine hx_plain rfl ?_; refine h_move rfl rfl rfl rfl ?_; refine hx_plain rfl ?_; refine h_cmp rfl rfl rfl rfl rfl rfl ?_; refine hx_plain rfl ?_)
        rw [decide_eq_true rfl]
        refine h_callR rfl rfl rfl rfl rfl rfl EC.out ((give_true 15).reads _) ?_
        (refine hx_nil ?_; refine hq_norm_block ?_; refine hq_then ?_; refine hc_lex ?_; refine hx_plain rfl ?_; refine h_arithI rfl rfl rfl rfl (by omega) rfl rfl ?_; refine hx_plain rfl ?_; refine h_move rfl rfl rfl rfl ?_; refine hx_nil ?_)
        exact hq_round (i + 1) (by omega) (by omega) (.cons rfl (.cons rfl (.cons rfl (.cons rfl .nil)))) (fun _ h => h)
      · (refine hc_seq ?_; refine hc_lex ?_; refine hx_plain rfl ?_; refine h_cmp rfl rfl rfl rfl rfl rfl ?_; refine hx_nil ?_; refine hq_then ?_; refine hc_seq ?_; refine hc_condDF rfl (by omega) ?_; refine hc_exit ?_; refine hq_exit_then ?_; refine hq_exit_then ?_)
        exact hq_cut () trivial (.cons rfl .nil) (fun _ h => h)
    · rintro ⟨⟩ _
      (refine hq_exit_block ?_; refine hq_then ?_; refine hc_seq ?_; refine hc_lex ?_; refine hx_plain rfl ?_; refine h_move rfl rfl rfl rfl ?_; refine hx_plain rfl ?_; refine h_assign rfl rfl rfl rfl ?_; refine hx_nil ?_; refine hq_then ?_; refine hc_ret ?_)
      exact hq_ret1 (.inr rfl) rfl rfl ⟨rfl, rfl⟩ (fun _ h => h)
  · obtain ⟨pv, hpv⟩ : ∃ pv : Value, ∃ a cap, subV g c (at_ + 4 + NB bs at_) (padN (NB bs at_)) = pv ∧ pv = .slice (some a) 0 cap := ⟨_, ⟨_, _, _⟩, _, rfl, by unfold subV; rw [show padN (NB bs at_) = 0 by omega]⟩
    obtain ⟨a, cap, hpv1, rfl⟩ := hpv
    rw [hpv1, show padN (NB bs at_) = 0 by omega]
    (refine hx_plain rfl ?_; refine h_len_slice rfl rfl rfl UC.out rfl rfl rfl ?_; refine hx_plain rfl ?_; refine h_move rfl rfl rfl rfl ?_; refine hx_nil ?_; refine hq_then ?_; refine hc_block ?_)
    refine hc_cut (id := 0) (Y := Unit) (fun _ => [(6, sv)]) (fun _ => [rdrB p (.slice (some ⟨g, 0, none⟩) bs.length c) (at_ : Int) ((at_ + 4 + NB bs at_ + 0 : Nat) : Int) 0, Row byteE 5 g c bs]) (fun _ => True) ?_ ?_
    · refine hc_loop (X := Unit) (fun i => [(6, sv), (24, .int .i64 0), (25, .int .i64 0)]) (fun _ => [rdrB p (.slice (some ⟨g, 0, none⟩) bs.length c) (at_ : Int) ((at_ + 4 + NB bs at_ + 0 : Nat) : Int) 0, Row byteE 5 g c bs]) (fun _ => True) (fun _ => 0) () (.cons rfl (.cons rfl (.cons rfl .nil))) trivial (fun _ h => h) ?_
      intro i hi
      (refine hc_seq ?_; refine hc_lex ?_; refine hx_plain rfl ?_; refine h_cmp rfl rfl rfl rfl rfl rfl ?_; refine hx_nil ?_; refine hq_then ?_; refine hc_seq ?_; refine hc_condF rfl ?_; refine hc_exit ?_; refine hq_exit_then ?_; refine hq_exit_then ?_)
      exact hq_cut () trivial (.cons rfl .nil) (fun _ h => h)
    · rintro ⟨⟩ _
      (refine hq_exit_block ?_; refine hq_then ?_; refine hc_seq ?_; refine hc_lex ?_; refine hx_plain rfl ?_; refine h_move rfl rfl rfl rfl ?_; refine hx_plain rfl ?_; refine h_assign rfl rfl rfl rfl ?_; refine hx_nil ?_; refine hq_then ?_; refine hc_ret ?_)
      exact hq_ret1 (.inr rfl) rfl rfl ⟨rfl, rfl⟩ (fun _ h => h)
end Go.Proofs.YtjnnlfeohbidhaaDoor
