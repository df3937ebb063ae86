import Derived.Test.YtjnnlfeohbidhaaDoorBt8
namespace Go.Proofs.YtjnnlfeohbidhaaDoor
open Go Go.Proofs Go.RowKit
set_option maxRecDepth 4000

section
variable (p : Nat) (bs : List Int) (at_ : Nat) (er most : Int) (E : Addr) (g : Nat) (hl : bs.length ≤ 140737488355200) (hat : at_ ≤ bs.length)
include hl hat
set_option maxHeartbeats 1000000 in
theorem flag_all : SpecI Tryd.prog (gl E) g 38 [.pointer (some ⟨p, 0, none⟩)] [RdrX p bs at_ er]
    (fun u M => u = .bool (FlagR bs at_ er).1 ∧ M = [RdrX p bs (FlagR bs at_ er).2.1 (FlagR bs at_ er).2.2]) := by
  refine specI_ofD Tryd.func38 rfl rfl (Nat.le_of_ble_eq_true rfl) (fun w F hI hF => ?_)
  refine hc_open .head RdrX_open ?_
  rintro ⟨nx, b, c⟩
  dsimp only
  refine hc_know (fun _ h => (h.perm (Pull.tail .head).perm).row_le.1) (fun hc => ?_)
  refine hc_seq ?_
  refine hc_lex ?_
  (refine hx_plain rfl ?_; refine h_assign rfl rfl rfl rfl ?_; refine hx_nil ?_; refine hq_then ?_)
  refine hc_seq ?_
  refine hc_defer (f := 50) (l1 := [_]) rfl rfl rfl rfl ?_
  (refine hx_plain rfl ?_; refine h_move rfl rfl rfl rfl ?_; refine hx_nil ?_)
  refine ⟨_, _, rfl, rfl, ?_⟩
  refine hq_then ?_
  refine hc_seq ?_
  refine hc_seq ?_
  refine hc_lex ?_
  (refine hx_plain rfl ?_; refine h_move rfl rfl rfl rfl ?_; refine hx_plain rfl ?_)
  refine h_call rfl rfl rfl rfl rfl rfl rfl rfl EC.out (.cons .head .nil) (begin_spec p _ _ _ _) ?_
  rintro u M ⟨rfl, rfl⟩
  (refine hx_nil ?_; refine hq_then ?_)
  by_cases her : er = 0
  case neg =>
    have e1 : FlagR bs at_ er  = (false, at_, er) := if_pos her
    rw [e1]
    (refine hc_condDF rfl (by omega) ?_; refine hc_skip ?_; refine hq_then ?_; refine hc_seq ?_; refine hc_lex ?_; refine hx_plain rfl ?_; refine h_move rfl rfl rfl rfl ?_; refine hx_plain rfl ?_; refine h_assign rfl rfl rfl rfl ?_; refine hx_nil ?_; refine hq_then ?_; refine hc_ret ?_)
    refine hq_retD1 (.inr rfl) rfl EC.out (.cons .head .nil) (end_err p _ _ _ er her) ?_
    rintro u M ⟨rfl, rfl⟩
    exact ⟨_, _, rv_tmp rfl, ⟨rfl, rfl⟩, fun _ h => RdrX_shut (g := b) (c := c) h⟩
  subst her
  refine hc_condDT rfl rfl ?_
  refine hc_seq ?_
  by_cases h1 : bs.length < at_ + 4
  · have e1 : FlagR bs at_ 0 = (false, at_, 11) := by unfold FlagR; rw [if_neg (by simp), if_pos h1]
    rw [e1]
    refine hc_callP (f := 53) [_] rfl rfl rfl EC.out ?_
    (refine hx_plain rfl ?_; refine h_move rfl rfl rfl rfl ?_; refine hx_nil ?_)
    refine PanicAt.mk rfl rfl (.cons .head (.cons .head .nil)) (take_panic p b c bs _ _ at_ 4 (by omega) hl (by omega)) ?_
    rintro ch M ⟨rfl, rfl⟩
    repeat (with_reducible refine hq_panic_then ?_)
    refine hq_panD1 hI hF rfl EC.out (.cons .head .nil) (end_panic p _ _ _ 11 E g) ?_
    rintro u M ⟨rfl, rfl⟩
    exact ⟨_, _, rv_tmp rfl, ⟨rfl, rfl⟩, fun _ h => RdrX_shut (g := b) (c := c) h⟩
  refine hc_lex ?_
  (refine hx_plain rfl ?_; refine h_move rfl rfl rfl rfl ?_; refine hx_plain rfl ?_)
  refine h_call rfl rfl rfl rfl rfl rfl rfl rfl EC.out (.cons .head (.cons .head .nil)) (take_spec p b c bs _ _ at_ 4 (by omega) hc hl) ?_
  rintro u M ⟨rfl, rfl⟩
  (refine hx_plain rfl ?_)
  refine h_callRd rfl rfl rfl rfl rfl rfl EC.out (fun w' h => number_reads (h.rdSub (.tail .head) (by omega))) ?_
  (refine hx_plain rfl ?_; refine h_assign rfl rfl rfl rfl ?_; refine hx_nil ?_; refine hq_then ?_)
  obtain ⟨nn, eN⟩ : ∃ nn, numR ((bs.drop at_).take 4) = nn := ⟨_, rfl⟩
  rw [eN, show (at_ : Int) + ((4 : Nat) : Int) = ((at_ + 4 : Nat) : Int) by omega]
  refine hc_seq ?_
  by_cases h2 : nn ≤ 1
  · have e1 : FlagR bs at_ 0 = (decide (nn = 1), at_ + 4, 0) := by unfold FlagR; rw [if_neg (by simp), if_neg h1, eN, if_pos h2]
    rw [e1]
    (refine hc_lex ?_; refine hx_plain rfl ?_; refine h_move rfl rfl rfl rfl ?_; refine hx_plain rfl ?_; refine h_cmp rfl rfl rfl rfl rfl rfl ?_; refine hx_plain rfl ?_)
    rw [decide_eq_true h2]
    refine h_callR rfl rfl rfl rfl rfl rfl EC.out ((give_true 13).reads _) ?_
    (refine hx_nil ?_; refine hq_then ?_; refine hc_lex ?_; refine hx_plain rfl ?_; refine h_move rfl rfl rfl rfl ?_; refine hx_plain rfl ?_; refine h_cmp rfl rfl rfl rfl rfl rfl ?_; refine hx_plain rfl ?_; refine h_assign rfl rfl rfl rfl ?_; refine hx_nil ?_; refine hq_then ?_; refine hc_seq ?_; refine hc_lex ?_; refine hx_plain rfl ?_; refine h_move rfl rfl rfl rfl ?_; refine hx_plain rfl ?_; refine h_assign rfl rfl rfl rfl ?_; refine hx_nil ?_; refine hq_then ?_; refine hc_ret ?_)
    refine hq_retD1 (.inr rfl) rfl EC.out (.cons .head .nil) (end_spec p _ _ _) ?_
    rintro u M ⟨rfl, rfl⟩
    exact ⟨_, _, rv_tmp rfl, ⟨rfl, rfl⟩, fun _ h => RdrX_shut (g := b) (c := c) h⟩
  · have e1 : FlagR bs at_ 0 = (false, at_, 13) := by unfold FlagR; rw [if_neg (by simp), if_neg h1, eN, if_neg h2]
    rw [e1]
    refine hc_callP (f := 54) [_, _] rfl rfl rfl EC.out ?_
    (refine hx_plain rfl ?_; refine h_move rfl rfl rfl rfl ?_; refine hx_plain rfl ?_; refine h_cmp rfl rfl rfl rfl rfl rfl ?_; refine hx_nil ?_)
    refine PanicAt.mk rfl rfl .nil (give_panic 13 (decide_eq_false h2)) ?_
    rintro ch M ⟨rfl, rfl⟩
    repeat (with_reducible refine hq_panic_then ?_)
    refine hq_panD1 hI hF rfl EC.out (.cons .head .nil) (end_panic p _ _ _ 13 E g) ?_
    rintro u M ⟨rfl, rfl⟩
    exact ⟨_, _, rv_tmp rfl, ⟨rfl, rfl⟩, fun _ h => RdrX_shut (g := b) (c := c) h⟩
set_option maxHeartbeats 1000000 in
theorem text_all (hb : Byts bs) : SpecI Tryd.prog (gl E) g 36 [.pointer (some ⟨p, 0, none⟩), .int .i64 most] [RdrX p bs at_ er]
    (fun u M => u = .string (strOf (BodyR bs at_ er most).1) ∧ M = [RdrX p bs (BodyR bs at_ er most).2.1 (BodyR bs at_ er most).2.2]) := by
  refine specI_ofD Tryd.func36 rfl rfl (Nat.le_of_ble_eq_true rfl) (fun w F hI hF => ?_)
  refine hc_open .head RdrX_open ?_
  rintro ⟨nx, b, c⟩
  dsimp only
  refine hc_know (fun _ h => (h.perm (Pull.tail .head).perm).row_le.1) (fun hc => ?_)
  refine hc_seq ?_
  refine hc_lex ?_
  (refine hx_plain rfl ?_; refine h_assign rfl rfl rfl rfl ?_; refine hx_nil ?_; refine hq_then ?_)
  refine hc_seq ?_
  refine hc_defer (f := 50) (l1 := [_]) rfl rfl rfl rfl ?_
  (refine hx_plain rfl ?_; refine h_move rfl rfl rfl rfl ?_; refine hx_nil ?_)
  refine ⟨_, _, rfl, rfl, ?_⟩
  refine hq_then ?_
  refine hc_seq ?_
  refine hc_seq ?_
  refine hc_lex ?_
  (refine hx_plain rfl ?_; refine h_move rfl rfl rfl rfl ?_; refine hx_plain rfl ?_)
  refine h_call rfl rfl rfl rfl rfl rfl rfl rfl EC.out (.cons .head .nil) (begin_spec p _ _ _ _) ?_
  rintro u M ⟨rfl, rfl⟩
  (refine hx_nil ?_; refine hq_then ?_)
  by_cases her : er = 0
  case neg =>
    have e1 : BodyR bs at_ er most = ([], at_, er) := if_pos her
    rw [e1]
    (refine hc_condDF rfl (by omega) ?_; refine hc_skip ?_; refine hq_then ?_; refine hc_seq ?_; refine hc_lex ?_; refine hx_plain rfl ?_; refine h_move rfl rfl rfl rfl ?_; refine hx_plain rfl ?_; refine h_assign rfl rfl rfl rfl ?_; refine hx_nil ?_; refine hq_then ?_; refine hc_ret ?_)
    refine hq_retD1 (.inr rfl) rfl EC.out (.cons .head .nil) (end_err p _ _ _ er her) ?_
    rintro u M ⟨rfl, rfl⟩
    exact ⟨_, _, rv_tmp rfl, ⟨rfl, rfl⟩, fun _ h => RdrX_shut (g := b) (c := c) h⟩
  subst her
  refine hc_condDT rfl rfl ?_
  by_cases h1 : bodyE bs at_ most = 0
  case neg =>
    have e1 : BodyR bs at_ 0 most = ([], at_, bodyE bs at_ most) := by unfold BodyR; rw [if_neg (by simp), if_neg h1]
    rw [e1]
    refine hc_callP (f := 63) [_, _] rfl rfl rfl EC.out ?_
    (refine hx_plain rfl ?_; refine h_move rfl rfl rfl rfl ?_; refine hx_plain rfl ?_; refine h_move rfl rfl rfl rfl ?_; refine hx_nil ?_)
    refine PanicAt.mk rfl rfl (.cons .head (.cons .head .nil)) (body_panic p b c bs at_ most hb hc hl hat h1) ?_
    rintro ch M ⟨rfl, nx2, rfl⟩
    repeat (with_reducible refine hq_panic_then ?_)
    refine hq_panD1 hI hF rfl EC.out (.cons .head .nil) (end_panic p _ _ _ (bodyE bs at_ most) E g) ?_
    rintro u M ⟨rfl, rfl⟩
    exact ⟨_, _, rv_tmp rfl, ⟨rfl, rfl⟩, fun _ h => RdrX_shut (g := b) (c := c) h⟩
  have e1 : BodyR bs at_ 0 most = ((bs.drop (at_ + 4)).take (NB bs at_), at_ + 4 + NB bs at_ + padN (NB bs at_), 0) := by unfold BodyR; rw [if_neg (by simp), if_pos h1]
  rw [e1]
  obtain ⟨k1, k2, k3, k4, k5⟩ := bodyE_ok h1
  have hlen : ((bs.drop (at_ + 4)).take (NB bs at_)).length = NB bs at_ := by rw [List.length_take, List.length_drop]; omega
  refine hc_lex ?_
  (refine hx_plain rfl ?_; refine h_move rfl rfl rfl rfl ?_; refine hx_plain rfl ?_; refine h_move rfl rfl rfl rfl ?_; refine hx_plain rfl ?_)
  refine h_call rfl rfl rfl rfl rfl rfl rfl rfl EC.out (.cons .head (.cons .head .nil)) (body_ok p b c bs at_ most hb hc hl h1) ?_
  rintro u M ⟨rfl, rfl⟩
  (refine hx_plain rfl ?_)
  refine h_toString rfl rfl UC.out UC.out UC.out (fun w' h => h.rdSub (.tail .head) (by omega)) rfl rfl ?_
  (refine hx_plain rfl ?_; refine h_assign rfl rfl rfl rfl ?_; refine hx_nil ?_; refine hq_then ?_; refine hc_seq ?_; refine hc_lex ?_; refine hx_plain rfl ?_; refine h_move rfl rfl rfl rfl ?_; refine hx_plain rfl ?_; refine h_assign rfl rfl rfl rfl ?_; refine hx_nil ?_; refine hq_then ?_; refine hc_ret ?_)
  refine hq_retD1 (.inr rfl) rfl EC.out (.cons .head .nil) (end_spec p _ _ _) ?_
  rintro u M ⟨rfl, rfl⟩
  exact ⟨_, _, rv_tmp rfl, ⟨rfl, rfl⟩, fun _ h => RdrX_shut (g := b) (c := c) h⟩
set_option maxHeartbeats 1000000 in
theorem bytes_all (hb : Byts bs) : SpecI Tryd.prog (gl E) g 37 [.pointer (some ⟨p, 0, none⟩), .int .i64 most] [RdrX p bs at_ er]
    (fun u M => M = [RowV byteE 5 u (BodyR bs at_ er most).1, RdrX p bs (BodyR bs at_ er most).2.1 (BodyR bs at_ er most).2.2]) := by
  refine specI_ofD Tryd.func37 rfl rfl (Nat.le_of_ble_eq_true rfl) (fun w F hI hF => ?_)
  refine hc_open .head RdrX_open ?_
  rintro ⟨nx, b, c⟩
  dsimp only
  refine hc_know (fun _ h => (h.perm (Pull.tail .head).perm).row_le.1) (fun hc => ?_)
  refine hc_seq ?_
  refine hc_lex ?_
  (refine hx_plain rfl ?_; refine h_assign rfl rfl rfl rfl ?_; refine hx_nil ?_; refine hq_then ?_)
  refine hc_seq ?_
  refine hc_defer (f := 50) (l1 := [_]) rfl rfl rfl rfl ?_
  (refine hx_plain rfl ?_; refine h_move rfl rfl rfl rfl ?_; refine hx_nil ?_)
  refine ⟨_, _, rfl, rfl, ?_⟩
  refine hq_then ?_
  refine hc_seq ?_
  refine hc_seq ?_
  refine hc_lex ?_
  (refine hx_plain rfl ?_; refine h_move rfl rfl rfl rfl ?_; refine hx_plain rfl ?_)
  refine h_call rfl rfl rfl rfl rfl rfl rfl rfl EC.out (.cons .head .nil) (begin_spec p _ _ _ _) ?_
  rintro u M ⟨rfl, rfl⟩
  (refine hx_nil ?_; refine hq_then ?_)
  by_cases her : er = 0
  case neg =>
    have e1 : BodyR bs at_ er most = ([], at_, er) := if_pos her
    rw [e1]
    (refine hc_condDF rfl (by omega) ?_; refine hc_skip ?_; refine hq_then ?_; refine hc_seq ?_; refine hc_lex ?_; refine hx_plain rfl ?_; refine h_move rfl rfl rfl rfl ?_; refine hx_plain rfl ?_; refine h_assign rfl rfl rfl rfl ?_; refine hx_nil ?_; refine hq_then ?_; refine hc_ret ?_)
    refine hq_retD1 (.inr rfl) rfl EC.out (.cons .head .nil) (end_err p _ _ _ er her) ?_
    rintro u M ⟨rfl, rfl⟩
    exact ⟨_, _, rv_tmp rfl, rfl, fun _ h => St.rowV_nil (RdrX_shut (g := b) (c := c) h)⟩
  subst her
  refine hc_condDT rfl rfl ?_
  by_cases h1 : bodyE bs at_ most = 0
  case neg =>
    have e1 : BodyR bs at_ 0 most = ([], at_, bodyE bs at_ most) := by unfold BodyR; rw [if_neg (by simp), if_neg h1]
    rw [e1]
    refine hc_callP (f := 63) [_, _] rfl rfl rfl EC.out ?_
    (refine hx_plain rfl ?_; refine h_move rfl rfl rfl rfl ?_; refine hx_plain rfl ?_; refine h_move rfl rfl rfl rfl ?_; refine hx_nil ?_)
    refine PanicAt.mk rfl rfl (.cons .head (.cons .head .nil)) (body_panic p b c bs at_ most hb hc hl hat h1) ?_
    rintro ch M ⟨rfl, nx2, rfl⟩
    repeat (with_reducible refine hq_panic_then ?_)
    refine hq_panD1 hI hF rfl EC.out (.cons .head .nil) (end_panic p _ _ _ (bodyE bs at_ most) E g) ?_
    rintro u M ⟨rfl, rfl⟩
    exact ⟨_, _, rv_tmp rfl, rfl, fun _ h => St.rowV_nil (RdrX_shut (g := b) (c := c) h)⟩
  have e1 : BodyR bs at_ 0 most = ((bs.drop (at_ + 4)).take (NB bs at_), at_ + 4 + NB bs at_ + padN (NB bs at_), 0) := by unfold BodyR; rw [if_neg (by simp), if_pos h1]
  rw [e1]
  obtain ⟨k1, k2, k3, k4, k5⟩ := bodyE_ok h1
  have hlen : ((bs.drop (at_ + 4)).take (NB bs at_)).length = NB bs at_ := by rw [List.length_take, List.length_drop]; omega
  refine hc_lex ?_
  (refine hx_plain rfl ?_; refine h_move rfl rfl rfl rfl ?_; refine hx_plain rfl ?_; refine h_move rfl rfl rfl rfl ?_; refine hx_plain rfl ?_)
  refine h_call rfl rfl rfl rfl rfl rfl rfl rfl EC.out (.cons .head (.cons .head .nil)) (body_ok p b c bs at_ most hb hc hl h1) ?_
  rintro u M ⟨rfl, rfl⟩
  (refine hx_plain rfl ?_)
  refine h_callW (post := fun u M => ∃ g, u = .slice (some ⟨g, 0, none⟩) ((bs.drop (at_ + 4)).take (NB bs at_)).length (((bs.drop (at_ + 4)).take (NB bs at_)).length + 0) ∧ M = [Row byteE 5 g (((bs.drop (at_ + 4)).take (NB bs at_)).length + 0) ((bs.drop (at_ + 4)).take (NB bs at_))]) rfl rfl rfl rfl rfl rfl rfl rfl EC.out (fun w' h => fresh_makes 0 (h.rdSub (.tail .head) (by omega)) (by omega)) ?_
  rintro u M ⟨g2, rfl, rfl⟩
  (refine hx_plain rfl ?_; refine h_assign rfl rfl rfl rfl ?_; refine hx_nil ?_; refine hq_then ?_; refine hc_seq ?_; refine hc_lex ?_; refine hx_plain rfl ?_; refine h_move rfl rfl rfl rfl ?_; refine hx_plain rfl ?_; refine h_assign rfl rfl rfl rfl ?_; refine hx_nil ?_; refine hq_then ?_; refine hc_ret ?_)
  refine hq_retD1 (.inr rfl) rfl EC.out (.cons (.tail .head) .nil) (end_spec p _ _ _) ?_
  rintro u M ⟨rfl, rfl⟩
  refine ⟨_, _, rv_tmp rfl, rfl, fun _ h => ?_⟩
  have h' := (h.perm (List.Perm.swap _ _ _)).rowV_mk
  refine (St.perm (List.Perm.swap _ _ _) ?_)
  exact RdrX_shut (g := b) (c := c) (h'.perm (by exact (List.Perm.swap _ _ _).trans ((List.Perm.swap _ _ _).cons _)))
end
section
variable (p : Nat) (bs : List Int) (at_ : Nat) (er : Int)
theorem err_spec : Spec Tryd.prog 28 [.pointer (some ⟨p, 0, none⟩)] [RdrX p bs at_ er] (fun u M => u = .tuple #[.int .i64 er, .int .i64 (at_ : Int)] ∧ M = [RdrX p bs at_ er]) := by
  refine spec_of Tryd.func28 rfl rfl (Nat.le_of_ble_eq_true rfl) (fun w F => ?_)
  refine hc_open .head RdrX_open ?_
  rintro ⟨nx, b, c⟩
  dsimp only
  unfold rdrB
  refine hc_seq ?_
  refine hc_lex ?_
  (refine hx_plain rfl ?_; refine h_assign rfl rfl rfl rfl ?_; refine hx_plain rfl ?_; refine h_assign rfl rfl rfl rfl ?_; refine hx_nil ?_; refine hq_then ?_)
  refine hc_seq ?_
  refine hc_drawO [0, 1, 2, 3, 8, 4, 5, 6, 7, 9] (fun _ => false) (by kernel_rfl) (by kernel_rfl) rfl ?_
  (refine hx_plain rfl ?_; refine h_move rfl rfl rfl rfl ?_; refine hx_plain rfl ?_; refine h_nilCheck rfl rfl rfl rfl ?_; refine hx_plain rfl ?_; refine h_fieldAddr0 rfl rfl FC.out rfl rfl ?_; refine hx_plain rfl ?_; refine h_load rfl rfl UC.out rfl .head rfl rfl rfl ?_; refine hx_plain rfl ?_; refine h_assign rfl rfl rfl rfl ?_; refine hx_plain rfl ?_; refine h_move rfl rfl rfl rfl ?_; refine hx_plain rfl ?_; refine h_nilCheck rfl rfl rfl rfl ?_; refine hx_plain rfl ?_; refine h_fieldAddr0 rfl rfl FC.out rfl rfl ?_; refine hx_plain rfl ?_; refine h_load rfl rfl UC.out rfl .head rfl rfl rfl ?_; refine hx_plain rfl ?_; refine h_assign rfl rfl rfl rfl ?_; refine hx_nil ?_; refine hq_then ?_; refine hc_ret ?_)
  exact hq_ret2 (.inr rfl) rfl rfl rfl ⟨rfl, rfl⟩ (fun _ h => RdrX_shut (g := b) (c := c) h)
def CloseR (bs : List Int) (at_ : Nat) (er : Int) : Int := if er = 0 ∧ at_ < bs.length then 16 else er
theorem close_spec : Spec Tryd.prog 30 [.pointer (some ⟨p, 0, none⟩)] [RdrX p bs at_ er] (fun u M => u = .int .i64 (CloseR bs at_ er) ∧ M = [RdrX p bs at_ (CloseR bs at_ er)]) := by
  refine spec_of Tryd.func30 rfl rfl (Nat.le_of_ble_eq_true rfl) (fun w F => ?_)
  refine hc_open .head RdrX_open ?_
  rintro ⟨nx, b, c⟩
  dsimp only
  unfold rdrB
  by_cases h0 : er = 0
  · subst h0
    by_cases h1 : at_ < bs.length
    · have e1 : CloseR bs at_ 0 = 16 := if_pos ⟨rfl, h1⟩
      rw [e1]
      (refine hc_seq ?_; refine hc_lex ?_; refine hx_plain rfl ?_; refine h_assign rfl rfl rfl rfl ?_; refine hx_nil ?_; refine hq_then ?_; refine hc_seq ?_; refine hc_seq ?_; refine hc_draw0 (by kernel_rfl) (by kernel_rfl) ?_; refine hx_plain rfl ?_; refine h_move rfl rfl rfl rfl ?_; refine hx_plain rfl ?_; refine h_nilCheck rfl rfl rfl rfl ?_; refine hx_plain rfl ?_; refine h_fieldAddr0 rfl rfl FC.out rfl rfl ?_; refine hx_plain rfl ?_; refine h_load rfl rfl UC.out rfl .head rfl rfl rfl ?_; refine hx_plain rfl ?_; refine h_cmp rfl rfl rfl rfl rfl rfl ?_; refine hx_plain rfl ?_; refine h_move rfl rfl rfl rfl ?_; refine hx_yes rfl rfl rfl ?_; refine h_move rfl rfl rfl rfl ?_; refine hx_yes rfl rfl rfl ?_; refine h_nilCheck rfl rfl rfl rfl ?_; refine hx_yes rfl rfl rfl ?_; refine h_fieldAddr0 rfl rfl FC.out rfl rfl ?_; refine hx_yes rfl rfl rfl ?_; refine h_load rfl rfl UC.out rfl .head rfl rfl rfl ?_; refine hx_yes rfl rfl rfl ?_; refine h_move rfl rfl rfl rfl ?_; refine hx_yes rfl rfl rfl ?_; refine h_nilCheck rfl rfl rfl rfl ?_; refine hx_yes rfl rfl rfl ?_; refine h_fieldAddr0 rfl rfl FC.out rfl rfl ?_; refine hx_yes rfl rfl rfl ?_; refine h_load rfl rfl UC.out rfl .head rfl rfl rfl ?_; refine hx_yes rfl rfl rfl ?_; refine h_len_slice rfl rfl rfl UC.out rfl rfl rfl ?_; refine hx_yes rfl rfl rfl ?_; refine h_cmp rfl rfl rfl rfl rfl rfl ?_; refine hx_plain rfl ?_; refine h_pickT rfl rfl rfl rfl rfl ?_; refine hx_nil ?_; refine hq_then ?_; refine hc_condDT rfl (by omega) ?_; refine hc_lex ?_; refine hx_plain rfl ?_; refine h_move rfl rfl rfl rfl ?_; refine hx_plain rfl ?_; refine h_nilCheck rfl rfl rfl rfl ?_; refine hx_plain rfl ?_; refine h_fieldAddr0 rfl rfl FC.out rfl rfl ?_; refine hx_plain rfl ?_; refine h_store rfl rfl rfl rfl rfl rfl IC.size .head rfl rfl (Nat.le_of_ble_eq_true rfl) (List.all_eq_true.1 rfl) ?_; refine hx_nil ?_; refine hq_then ?_; refine hc_seq ?_; refine hc_lex ?_; refine hx_plain rfl ?_; refine h_move rfl rfl rfl rfl ?_; refine hx_plain rfl ?_; refine h_nilCheck rfl rfl rfl rfl ?_; refine hx_plain rfl ?_; refine h_fieldAddr0 rfl rfl FC.out rfl rfl ?_; refine hx_plain rfl ?_; refine h_load rfl rfl UC.out rfl .head rfl rfl rfl ?_; refine hx_plain rfl ?_; refine h_assign rfl rfl rfl rfl ?_; refine hx_nil ?_; refine hq_then ?_; refine hc_ret ?_)
      exact hq_ret1 (.inr rfl) rfl rfl ⟨rfl, rfl⟩ (fun _ h => RdrX_shut (g := b) (c := c) h)
    · have e1 : CloseR bs at_ 0 = 0 := if_neg (fun h => h1 h.2)
      rw [e1]
      (refine hc_seq ?_; refine hc_lex ?_; refine hx_plain rfl ?_; refine h_assign rfl rfl rfl rfl ?_; refine hx_nil ?_; refine hq_then ?_; refine hc_seq ?_; refine hc_seq ?_; refine hc_draw0 (by kernel_rfl) (by kernel_rfl) ?_; refine hx_plain rfl ?_; refine h_move rfl rfl rfl rfl ?_; refine hx_plain rfl ?_; refine h_nilCheck rfl rfl rfl rfl ?_; refine hx_plain rfl ?_; refine h_fieldAddr0 rfl rfl FC.out rfl rfl ?_; refine hx_plain rfl ?_; refine h_load rfl rfl UC.out rfl .head rfl rfl rfl ?_; refine hx_plain rfl ?_; refine h_cmp rfl rfl rfl rfl rfl rfl ?_; refine hx_plain rfl ?_; refine h_move rfl rfl rfl rfl ?_; refine hx_yes rfl rfl rfl ?_; refine h_move rfl rfl rfl rfl ?_; refine hx_yes rfl rfl rfl ?_; refine h_nilCheck rfl rfl rfl rfl ?_; refine hx_yes rfl rfl rfl ?_; refine h_fieldAddr0 rfl rfl FC.out rfl rfl ?_; refine hx_yes rfl rfl rfl ?_; refine h_load rfl rfl UC.out rfl .head rfl rfl rfl ?_; refine hx_yes rfl rfl rfl ?_; refine h_move rfl rfl rfl rfl ?_; refine hx_yes rfl rfl rfl ?_; refine h_nilCheck rfl rfl rfl rfl ?_; refine hx_yes rfl rfl rfl ?_; refine h_fieldAddr0 rfl rfl FC.out rfl rfl ?_; refine hx_yes rfl rfl rfl ?_; refine h_load rfl rfl UC.out rfl .head rfl rfl rfl ?_; refine hx_yes rfl rfl rfl ?_; refine h_len_slice rfl rfl rfl UC.out rfl rfl rfl ?_; refine hx_yes rfl rfl rfl ?_; refine h_cmp rfl rfl rfl rfl rfl rfl ?_; refine hx_plain rfl ?_; refine h_pickT rfl rfl rfl rfl rfl ?_; refine hx_nil ?_; refine hq_then ?_; refine hc_condDF rfl (by omega) ?_; refine hc_skip ?_; refine hq_then ?_; refine hc_seq ?_; refine hc_lex ?_; refine hx_plain rfl ?_; refine h_move rfl rfl rfl rfl ?_; refine hx_plain rfl ?_; refine h_nilCheck rfl rfl rfl rfl ?_; refine hx_plain rfl ?_; refine h_fieldAddr0 rfl rfl FC.out rfl rfl ?_; refine hx_plain rfl ?_; refine h_load rfl rfl UC.out rfl .head rfl rfl rfl ?_; refine hx_plain rfl ?_; refine h_assign rfl rfl rfl rfl ?_; refine hx_nil ?_; refine hq_then ?_; refine hc_ret ?_)
      exact hq_ret1 (.inr rfl) rfl rfl ⟨rfl, rfl⟩ (fun _ h => RdrX_shut (g := b) (c := c) h)
  · have e1 : CloseR bs at_ er = er := if_neg (fun h => h0 h.1)
    rw [e1]
    (refine hc_seq ?_; refine hc_lex ?_; refine hx_plain rfl ?_; refine h_assign rfl rfl rfl rfl ?_; refine hx_nil ?_; refine hq_then ?_; refine hc_seq ?_; refine hc_seq ?_; refine hc_draw0 (by kernel_rfl) (by kernel_rfl) ?_; refine hx_plain rfl ?_; refine h_move rfl rfl rfl rfl ?_; refine hx_plain rfl ?_; refine h_nilCheck rfl rfl rfl rfl ?_; refine hx_plain rfl ?_; refine h_fieldAddr0 rfl rfl FC.out rfl rfl ?_; refine hx_plain rfl ?_; refine h_load rfl rfl UC.out rfl .head rfl rfl rfl ?_; refine hx_plain rfl ?_; refine h_cmp rfl rfl rfl rfl rfl rfl ?_; refine hx_plain rfl ?_; refine h_move rfl rfl rfl rfl ?_; refine hx_gF rfl rfl rfl (by omega) ?_; refine hx_skip rfl rfl rfl rfl rfl rfl ?_; refine hx_skip rfl rfl rfl rfl rfl rfl ?_; refine hx_skip rfl rfl rfl rfl rfl rfl ?_; refine hx_skip rfl rfl rfl rfl rfl rfl ?_; refine hx_skip rfl rfl rfl rfl rfl rfl ?_; refine hx_skip rfl rfl rfl rfl rfl rfl ?_; refine hx_skip rfl rfl rfl rfl rfl rfl ?_; refine hx_skip rfl rfl rfl rfl rfl rfl ?_; refine hx_skip rfl rfl rfl rfl rfl rfl ?_; refine hx_skip rfl rfl rfl rfl rfl rfl ?_; refine hx_plain rfl ?_; refine h_pickF rfl rfl rfl rfl rfl ?_; refine hx_nil ?_; refine hq_then ?_; refine hc_condF rfl ?_; refine hc_skip ?_; refine hq_then ?_; refine hc_seq ?_; refine hc_lex ?_; refine hx_plain rfl ?_; refine h_move rfl rfl rfl rfl ?_; refine hx_plain rfl ?_; refine h_nilCheck rfl rfl rfl rfl ?_; refine hx_plain rfl ?_; refine h_fieldAddr0 rfl rfl FC.out rfl rfl ?_; refine hx_plain rfl ?_; refine h_load rfl rfl UC.out rfl .head rfl rfl rfl ?_; refine hx_plain rfl ?_; refine h_assign rfl rfl rfl rfl ?_; refine hx_nil ?_; refine hq_then ?_; refine hc_ret ?_)
    exact hq_ret1 (.inr rfl) rfl rfl ⟨rfl, rfl⟩ (fun _ h => RdrX_shut (g := b) (c := c) h)
end
end Go.Proofs.YtjnnlfeohbidhaaDoor
