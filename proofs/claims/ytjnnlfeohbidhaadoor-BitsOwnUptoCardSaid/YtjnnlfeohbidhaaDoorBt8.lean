import Derived.Test.YtjnnlfeohbidhaaDoorBt7
namespace Go.Proofs.YtjnnlfeohbidhaaDoor
open Go Go.Proofs Go.RowKit
set_option maxRecDepth 4000

/-- A reader: its bytes, its place, its error. -/
def RdrX (p : Nat) (bs : List Int) (at_ : Nat) (er : Int) : Asn := Ex fun x : Int × Nat × Nat => All [rdrB p (.slice (some ⟨x.2.1, 0, none⟩) bs.length x.2.2) (at_ : Int) x.1 er, Row byteE 5 x.2.1 x.2.2 bs]
theorem RdrX_open {p : Nat} {bs : List Int} {at_ : Nat} {er : Int} (w w0 : World) (F0 : Nat → Prop) (R : List Asn) (h : St w0 F0 (RdrX p bs at_ er :: R) w) : ∃ x : Int × Nat × Nat, St w0 F0 ([rdrB p (.slice (some ⟨x.2.1, 0, none⟩) bs.length x.2.2) (at_ : Int) x.1 er, Row byteE 5 x.2.1 x.2.2 bs] ++ R) w := by
  obtain ⟨x, hx⟩ := St.ex.1 h
  exact ⟨x, St.all.1 hx⟩
theorem RdrX_shut {p g c : Nat} {bs : List Int} {at_ : Nat} {nx er : Int} {w w0 : World} {F0 : Nat → Prop} {R : List Asn} (h : St w0 F0 (rdrB p (.slice (some ⟨g, 0, none⟩) bs.length c) (at_ : Int) nx er :: Row byteE 5 g c bs :: R) w) : St w0 F0 (RdrX p bs at_ er :: R) w :=
  St.ex.2 ⟨(nx, g, c), St.all.2 h⟩
theorem RdrO.toX {p : Nat} {bs : List Int} {nx er : Int} {w w0 : World} {F0 : Nat → Prop} {R : List Asn} (h : St w0 F0 (RdrO p bs 0 nx er :: R) w) : St w0 F0 (RdrX p bs 0 er :: R) w := by
  obtain ⟨⟨g, c⟩, hx⟩ := RdrO_open w w0 F0 R h
  exact RdrX_shut (at_ := 0) hx

/-- The number at the place, of eight bytes. -/
def N8 (bs : List Int) (at_ : Nat) : Int := numR ((bs.drop at_).take 8)
def U32R (bs : List Int) (at_ : Nat) (er most : Int) : Int × Nat × Int :=
  if er ≠ 0 then (0, at_, er) else if bs.length < at_ + 4 then (0, at_, 11) else if N4 bs at_ ≤ most then (N4 bs at_, at_ + 4, 0) else (0, at_, 12)
def U64R (bs : List Int) (at_ : Nat) (er most : Int) : Int × Nat × Int :=
  if er ≠ 0 then (0, at_, er) else if bs.length < at_ + 8 then (0, at_, 11) else if 0 ≤ most ∧ N8 bs at_ ≤ IntKind.u64.wrap most then (IntKind.i64.wrap (N8 bs at_), at_ + 8, 0) else (0, at_, 12)
def SumR (bs : List Int) (at_ : Nat) (er : Int) : Int × Nat × Int :=
  if er ≠ 0 then (0, at_, er) else if bs.length < at_ + 8 then (0, at_, 11) else (N8 bs at_, at_ + 8, 0)
def FlagR (bs : List Int) (at_ : Nat) (er : Int) : Bool × Nat × Int :=
  if er ≠ 0 then (false, at_, er) else if bs.length < at_ + 4 then (false, at_, 11) else if numR ((bs.drop at_).take 4) ≤ 1 then (decide (numR ((bs.drop at_).take 4) = 1), at_ + 4, 0) else (false, at_, 13)
def BodyR (bs : List Int) (at_ : Nat) (er most : Int) : List Int × Nat × Int :=
  if er ≠ 0 then ([], at_, er) else if bodyE bs at_ most = 0 then ((bs.drop (at_ + 4)).take (NB bs at_), at_ + 4 + NB bs at_ + padN (NB bs at_), 0) else ([], at_, bodyE bs at_ most)

section
variable (p : Nat) (bs : List Int) (at_ : Nat) (er most : Int) (E : Addr) (g : Nat) (hl : bs.length ≤ 140737488355200) (hat : at_ ≤ bs.length)
include hl hat
set_option maxHeartbeats 1000000 in
theorem u32_all : SpecI Tryd.prog (gl E) g 31 [.pointer (some ⟨p, 0, none⟩), .int .i64 most] [RdrX p bs at_ er]
    (fun u M => u = .int .i64 (U32R bs at_ er most).1 ∧ M = [RdrX p bs (U32R bs at_ er most).2.1 (U32R bs at_ er most).2.2]) := by
  refine specI_ofD Tryd.func31 rfl rfl (Nat.le_of_ble_eq_true rfl) (fun w F hI hF => ?_)
  refine hc_open .head RdrX_open ?_
  rintro ⟨nx, b, c⟩
  dsimp only
  refine hc_know (fun _ h => (h.perm (Pull.tail .head).perm).row_le.1) (fun hc => ?_)
  refine hc_seq ?_
  refine hc_lex ?_
  (refine hx_plain rfl ?_; refine h_assign rfl rfl rfl rfl ?_; refine hx_nil ?_; refine hq_then ?_)
  refine hc_seq ?_
  refine hc_defer (f := 50) (l1 := [_]) rfl rfl rfl rfl ?_
  (refine hx_plain rfl ?_; refine h_move rfl rfl rfl rfl ?_; refine hx_nil ?_)
  refine ⟨_, _, rfl, rfl, ?_⟩
  refine hq_then ?_
  refine hc_seq ?_
  refine hc_seq ?_
  refine hc_lex ?_
  (refine hx_plain rfl ?_; refine h_move rfl rfl rfl rfl ?_; refine hx_plain rfl ?_)
  refine h_call rfl rfl rfl rfl rfl rfl rfl rfl EC.out (.cons .head .nil) (begin_spec p _ _ _ _) ?_
  rintro u M ⟨rfl, rfl⟩
  (refine hx_nil ?_; refine hq_then ?_)
  by_cases her : er = 0
  case neg =>
    have e1 : U32R bs at_ er most = (0, at_, er) := if_pos her
    rw [e1]
    (refine hc_condDF rfl (by omega) ?_; refine hc_skip ?_; refine hq_then ?_; refine hc_seq ?_; refine hc_lex ?_; refine hx_plain rfl ?_; refine h_move rfl rfl rfl rfl ?_; refine hx_plain rfl ?_; refine h_assign rfl rfl rfl rfl ?_; refine hx_nil ?_; refine hq_then ?_; refine hc_ret ?_)
    refine hq_retD1 (.inr rfl) rfl EC.out (.cons .head .nil) (end_err p _ _ _ er her) ?_
    rintro u M ⟨rfl, rfl⟩
    exact ⟨_, _, rv_tmp rfl, ⟨rfl, rfl⟩, fun _ h => RdrX_shut (g := b) (c := c) h⟩
  subst her
  refine hc_condDT rfl rfl ?_
  refine hc_seq ?_
  by_cases h1 : bs.length < at_ + 4
  · have e1 : U32R bs at_ 0 most = (0, at_, 11) := by unfold U32R; rw [if_neg (by simp), if_pos h1]
    rw [e1]
    refine hc_callP (f := 53) [_] rfl rfl rfl EC.out ?_
    (refine hx_plain rfl ?_; refine h_move rfl rfl rfl rfl ?_; refine hx_nil ?_)
    refine PanicAt.mk rfl rfl (.cons .head (.cons .head .nil)) (take_panic p b c bs _ _ at_ 4 (by omega) hl (by omega)) ?_
    rintro ch M ⟨rfl, rfl⟩
    repeat (with_reducible refine hq_panic_then ?_)
    refine hq_panD1 hI hF rfl EC.out (.cons .head .nil) (end_panic p _ _ _ 11 E g) ?_
    rintro u M ⟨rfl, rfl⟩
    exact ⟨_, _, rv_tmp rfl, ⟨rfl, rfl⟩, fun _ h => RdrX_shut (g := b) (c := c) h⟩
  refine hc_lex ?_
  (refine hx_plain rfl ?_; refine h_move rfl rfl rfl rfl ?_; refine hx_plain rfl ?_)
  refine h_call rfl rfl rfl rfl rfl rfl rfl rfl EC.out (.cons .head (.cons .head .nil)) (take_spec p b c bs _ _ at_ 4 (by omega) hc hl) ?_
  rintro u M ⟨rfl, rfl⟩
  (refine hx_plain rfl ?_)
  refine h_callRd rfl rfl rfl rfl rfl rfl EC.out (fun w' h => number_reads (h.rdSub (.tail .head) (by omega))) ?_
  (refine hx_plain rfl ?_; refine h_convInt rfl rfl UC.out UC.out rfl rfl ?_; refine hx_plain rfl ?_; refine h_assign rfl rfl rfl rfl ?_; refine hx_nil ?_; refine hq_then ?_)
  have eN : IntKind.i64.wrap (numR ((bs.drop at_).take 4)) = N4 bs at_ := rfl
  rw [eN, show (at_ : Int) + ((4 : Nat) : Int) = ((at_ + 4 : Nat) : Int) by omega]
  refine hc_seq ?_
  by_cases h2 : N4 bs at_ ≤ most
  · have e1 : U32R bs at_ 0 most = (N4 bs at_, at_ + 4, 0) := by unfold U32R; rw [if_neg (by simp), if_neg h1, if_pos h2]
    rw [e1]
    (refine hc_lex ?_; refine hx_plain rfl ?_; refine h_move rfl rfl rfl rfl ?_; refine hx_plain rfl ?_; refine h_move rfl rfl rfl rfl ?_; refine hx_plain rfl ?_; refine h_cmp rfl rfl rfl rfl rfl rfl ?_; refine hx_plain rfl ?_)
    rw [decide_eq_true h2]
    refine h_callR rfl rfl rfl rfl rfl rfl EC.out ((give_true 12).reads _) ?_
    (refine hx_nil ?_; refine hq_then ?_; refine hc_lex ?_; refine hx_plain rfl ?_; refine h_move rfl rfl rfl rfl ?_; refine hx_plain rfl ?_; refine h_assign rfl rfl rfl rfl ?_; refine hx_nil ?_; refine hq_then ?_; refine hc_seq ?_; refine hc_lex ?_; refine hx_plain rfl ?_; refine h_move rfl rfl rfl rfl ?_; refine hx_plain rfl ?_; refine h_assign rfl rfl rfl rfl ?_; refine hx_nil ?_; refine hq_then ?_; refine hc_ret ?_)
    refine hq_retD1 (.inr rfl) rfl EC.out (.cons .head .nil) (end_spec p _ _ _) ?_
    rintro u M ⟨rfl, rfl⟩
    exact ⟨_, _, rv_tmp rfl, ⟨rfl, rfl⟩, fun _ h => RdrX_shut (g := b) (c := c) h⟩
  · have e1 : U32R bs at_ 0 most = (0, at_, 12) := by unfold U32R; rw [if_neg (by simp), if_neg h1, if_neg h2]
    rw [e1]
    refine hc_callP (f := 54) [_, _, _] rfl rfl rfl EC.out ?_
    (refine hx_plain rfl ?_; refine h_move rfl rfl rfl rfl ?_; refine hx_plain rfl ?_; refine h_move rfl rfl rfl rfl ?_; refine hx_plain rfl ?_; refine h_cmp rfl rfl rfl rfl rfl rfl ?_; refine hx_nil ?_)
    refine PanicAt.mk rfl rfl .nil (give_panic 12 (decide_eq_false h2)) ?_
    rintro ch M ⟨rfl, rfl⟩
    repeat (with_reducible refine hq_panic_then ?_)
    refine hq_panD1 hI hF rfl EC.out (.cons .head .nil) (end_panic p _ _ _ 12 E g) ?_
    rintro u M ⟨rfl, rfl⟩
    exact ⟨_, _, rv_tmp rfl, ⟨rfl, rfl⟩, fun _ h => RdrX_shut (g := b) (c := c) h⟩
set_option maxHeartbeats 1000000 in
theorem u64_all : SpecI Tryd.prog (gl E) g 34 [.pointer (some ⟨p, 0, none⟩), .int .i64 most] [RdrX p bs at_ er]
    (fun u M => u = .int .i64 (U64R bs at_ er most).1 ∧ M = [RdrX p bs (U64R bs at_ er most).2.1 (U64R bs at_ er most).2.2]) := by
  refine specI_ofD Tryd.func34 rfl rfl (Nat.le_of_ble_eq_true rfl) (fun w F hI hF => ?_)
  refine hc_open .head RdrX_open ?_
  rintro ⟨nx, b, c⟩
  dsimp only
  refine hc_know (fun _ h => (h.perm (Pull.tail .head).perm).row_le.1) (fun hc => ?_)
  refine hc_seq ?_
  refine hc_lex ?_
  (refine hx_plain rfl ?_; refine h_assign rfl rfl rfl rfl ?_; refine hx_nil ?_; refine hq_then ?_)
  refine hc_seq ?_
  refine hc_defer (f := 50) (l1 := [_]) rfl rfl rfl rfl ?_
  (refine hx_plain rfl ?_; refine h_move rfl rfl rfl rfl ?_; refine hx_nil ?_)
  refine ⟨_, _, rfl, rfl, ?_⟩
  refine hq_then ?_
  refine hc_seq ?_
  refine hc_seq ?_
  refine hc_lex ?_
  (refine hx_plain rfl ?_; refine h_move rfl rfl rfl rfl ?_; refine hx_plain rfl ?_)
  refine h_call rfl rfl rfl rfl rfl rfl rfl rfl EC.out (.cons .head .nil) (begin_spec p _ _ _ _) ?_
  rintro u M ⟨rfl, rfl⟩
  (refine hx_nil ?_; refine hq_then ?_)
  by_cases her : er = 0
  case neg =>
    have e1 : U64R bs at_ er most = (0, at_, er) := if_pos her
    rw [e1]
    (refine hc_condDF rfl (by omega) ?_; refine hc_skip ?_; refine hq_then ?_; refine hc_seq ?_; refine hc_lex ?_; refine hx_plain rfl ?_; refine h_move rfl rfl rfl rfl ?_; refine hx_plain rfl ?_; refine h_assign rfl rfl rfl rfl ?_; refine hx_nil ?_; refine hq_then ?_; refine hc_ret ?_)
    refine hq_retD1 (.inr rfl) rfl EC.out (.cons .head .nil) (end_err p _ _ _ er her) ?_
    rintro u M ⟨rfl, rfl⟩
    exact ⟨_, _, rv_tmp rfl, ⟨rfl, rfl⟩, fun _ h => RdrX_shut (g := b) (c := c) h⟩
  subst her
  refine hc_condDT rfl rfl ?_
  refine hc_seq ?_
  by_cases h1 : bs.length < at_ + 8
  · have e1 : U64R bs at_ 0 most = (0, at_, 11) := by unfold U64R; rw [if_neg (by simp), if_pos h1]
    rw [e1]
    refine hc_callP (f := 53) [_] rfl rfl rfl EC.out ?_
    (refine hx_plain rfl ?_; refine h_move rfl rfl rfl rfl ?_; refine hx_nil ?_)
    refine PanicAt.mk rfl rfl (.cons .head (.cons .head .nil)) (take_panic p b c bs _ _ at_ 8 (by omega) hl (by omega)) ?_
    rintro ch M ⟨rfl, rfl⟩
    repeat (with_reducible refine hq_panic_then ?_)
    refine hq_panD1 hI hF rfl EC.out (.cons .head .nil) (end_panic p _ _ _ 11 E g) ?_
    rintro u M ⟨rfl, rfl⟩
    exact ⟨_, _, rv_tmp rfl, ⟨rfl, rfl⟩, fun _ h => RdrX_shut (g := b) (c := c) h⟩
  refine hc_lex ?_
  (refine hx_plain rfl ?_; refine h_move rfl rfl rfl rfl ?_; refine hx_plain rfl ?_)
  refine h_call rfl rfl rfl rfl rfl rfl rfl rfl EC.out (.cons .head (.cons .head .nil)) (take_spec p b c bs _ _ at_ 8 (by omega) hc hl) ?_
  rintro u M ⟨rfl, rfl⟩
  (refine hx_plain rfl ?_)
  refine h_callRd rfl rfl rfl rfl rfl rfl EC.out (fun w' h => number_reads (h.rdSub (.tail .head) (by omega))) ?_
  (refine hx_plain rfl ?_; refine h_assign rfl rfl rfl rfl ?_; refine hx_nil ?_; refine hq_then ?_)
  have eN : numR ((bs.drop at_).take 8) = N8 bs at_ := rfl
  rw [eN, show (at_ : Int) + ((8 : Nat) : Int) = ((at_ + 8 : Nat) : Int) by omega]
  refine hc_seq ?_
  by_cases h0 : 0 ≤ most
  · by_cases h2 : N8 bs at_ ≤ IntKind.u64.wrap most
    · have e1 : U64R bs at_ 0 most = (IntKind.i64.wrap (N8 bs at_), at_ + 8, 0) := by unfold U64R; rw [if_neg (by simp), if_neg h1, if_pos ⟨h0, h2⟩]
      rw [e1]
      (refine hc_lex ?_; refine hx_plain rfl ?_; refine h_move rfl rfl rfl rfl ?_; refine hx_plain rfl ?_; refine h_cmp rfl rfl rfl rfl rfl rfl ?_; refine hx_plain rfl ?_; refine h_move rfl rfl rfl rfl ?_; refine hx_gT rfl rfl rfl (by omega) ?_; refine hx_yes rfl rfl rfl ?_; refine h_move rfl rfl rfl rfl ?_; refine hx_yes rfl rfl rfl ?_; refine h_move rfl rfl rfl rfl ?_; refine hx_yes rfl rfl rfl ?_; refine h_convInt rfl rfl UC.out UC.out rfl rfl ?_; refine hx_yes rfl rfl rfl ?_; refine h_cmp rfl rfl rfl rfl rfl rfl ?_; refine hx_plain rfl ?_; refine h_pickT rfl rfl rfl rfl rfl ?_; refine hx_plain rfl ?_)
      rw [decide_eq_true h2]
      refine h_callR rfl rfl rfl rfl rfl rfl EC.out ((give_true 12).reads _) ?_
      (refine hx_nil ?_; refine hq_then ?_; refine hc_lex ?_; refine hx_plain rfl ?_; refine h_move rfl rfl rfl rfl ?_; refine hx_plain rfl ?_; refine h_convInt rfl rfl UC.out UC.out rfl rfl ?_; refine hx_plain rfl ?_; refine h_assign rfl rfl rfl rfl ?_; refine hx_nil ?_; refine hq_then ?_; refine hc_seq ?_; refine hc_lex ?_; refine hx_plain rfl ?_; refine h_move rfl rfl rfl rfl ?_; refine hx_plain rfl ?_; refine h_assign rfl rfl rfl rfl ?_; refine hx_nil ?_; refine hq_then ?_; refine hc_ret ?_)
      refine hq_retD1 (.inr rfl) rfl EC.out (.cons .head .nil) (end_spec p _ _ _) ?_
      rintro u M ⟨rfl, rfl⟩
      exact ⟨_, _, rv_tmp rfl, ⟨rfl, rfl⟩, fun _ h => RdrX_shut (g := b) (c := c) h⟩
    · have e1 : U64R bs at_ 0 most = (0, at_, 12) := by unfold U64R; rw [if_neg (by simp), if_neg h1, if_neg (fun h => h2 h.2)]
      rw [e1]
      refine hc_callP (f := 54) [_, _, _, _, _, _, _, _] rfl rfl rfl EC.out ?_
      (refine hx_plain rfl ?_; refine h_move rfl rfl rfl rfl ?_; refine hx_plain rfl ?_; refine h_cmp rfl rfl rfl rfl rfl rfl ?_; refine hx_plain rfl ?_; refine h_move rfl rfl rfl rfl ?_; refine hx_gT rfl rfl rfl (by omega) ?_; refine hx_yes rfl rfl rfl ?_; refine h_move rfl rfl rfl rfl ?_; refine hx_yes rfl rfl rfl ?_; refine h_move rfl rfl rfl rfl ?_; refine hx_yes rfl rfl rfl ?_; refine h_convInt rfl rfl UC.out UC.out rfl rfl ?_; refine hx_yes rfl rfl rfl ?_; refine h_cmp rfl rfl rfl rfl rfl rfl ?_; refine hx_plain rfl ?_; refine h_pickT rfl rfl rfl rfl rfl ?_; refine hx_nil ?_)
      refine PanicAt.mk rfl rfl .nil (give_panic 12 (decide_eq_false h2)) ?_
      rintro ch M ⟨rfl, rfl⟩
      repeat (with_reducible refine hq_panic_then ?_)
      refine hq_panD1 hI hF rfl EC.out (.cons .head .nil) (end_panic p _ _ _ 12 E g) ?_
      rintro u M ⟨rfl, rfl⟩
      exact ⟨_, _, rv_tmp rfl, ⟨rfl, rfl⟩, fun _ h => RdrX_shut (g := b) (c := c) h⟩
  · have e1 : U64R bs at_ 0 most = (0, at_, 12) := by unfold U64R; rw [if_neg (by simp), if_neg h1, if_neg (fun h => h0 h.1)]
    rw [e1]
    refine hc_callP (f := 54) [_, _, _, _, _, _, _, _] rfl rfl rfl EC.out ?_
    (refine hx_plain rfl ?_; refine h_move rfl rfl rfl rfl ?_; refine hx_plain rfl ?_; refine h_cmp rfl rfl rfl rfl rfl rfl ?_; refine hx_plain rfl ?_; refine h_move rfl rfl rfl rfl ?_; refine hx_gF rfl rfl rfl (by omega) ?_; refine hx_skip rfl rfl rfl rfl rfl rfl ?_; refine hx_skip rfl rfl rfl rfl rfl rfl ?_; refine hx_skip rfl rfl rfl rfl rfl rfl ?_; refine hx_skip rfl rfl rfl rfl rfl rfl ?_; refine hx_plain rfl ?_; refine h_pickF rfl rfl rfl rfl rfl ?_; refine hx_nil ?_)
    refine PanicAt.mk rfl rfl .nil (give_panic 12 rfl) ?_
    rintro ch M ⟨rfl, rfl⟩
    repeat (with_reducible refine hq_panic_then ?_)
    refine hq_panD1 hI hF rfl EC.out (.cons .head .nil) (end_panic p _ _ _ 12 E g) ?_
    rintro u M ⟨rfl, rfl⟩
    exact ⟨_, _, rv_tmp rfl, ⟨rfl, rfl⟩, fun _ h => RdrX_shut (g := b) (c := c) h⟩
set_option maxHeartbeats 1000000 in
theorem sum_all : SpecI Tryd.prog (gl E) g 35 [.pointer (some ⟨p, 0, none⟩)] [RdrX p bs at_ er]
    (fun u M => u = .int .u64 (SumR bs at_ er).1 ∧ M = [RdrX p bs (SumR bs at_ er).2.1 (SumR bs at_ er).2.2]) := by
  refine specI_ofD Tryd.func35 rfl rfl (Nat.le_of_ble_eq_true rfl) (fun w F hI hF => ?_)
  refine hc_open .head RdrX_open ?_
  rintro ⟨nx, b, c⟩
  dsimp only
  refine hc_know (fun _ h => (h.perm (Pull.tail .head).perm).row_le.1) (fun hc => ?_)
  refine hc_seq ?_
  refine hc_lex ?_
  (refine hx_plain rfl ?_; refine h_assign rfl rfl rfl rfl ?_; refine hx_nil ?_; refine hq_then ?_)
  refine hc_seq ?_
  refine hc_defer (f := 50) (l1 := [_]) rfl rfl rfl rfl ?_
  (refine hx_plain rfl ?_; refine h_move rfl rfl rfl rfl ?_; refine hx_nil ?_)
  refine ⟨_, _, rfl, rfl, ?_⟩
  refine hq_then ?_
  refine hc_seq ?_
  refine hc_seq ?_
  refine hc_lex ?_
  (refine hx_plain rfl ?_; refine h_move rfl rfl rfl rfl ?_; refine hx_plain rfl ?_)
  refine h_call rfl rfl rfl rfl rfl rfl rfl rfl EC.out (.cons .head .nil) (begin_spec p _ _ _ _) ?_
  rintro u M ⟨rfl, rfl⟩
  (refine hx_nil ?_; refine hq_then ?_)
  by_cases her : er = 0
  case neg =>
    have e1 : SumR bs at_ er = (0, at_, er) := if_pos her
    rw [e1]
    (refine hc_condDF rfl (by omega) ?_; refine hc_skip ?_; refine hq_then ?_; refine hc_seq ?_; refine hc_lex ?_; refine hx_plain rfl ?_; refine h_move rfl rfl rfl rfl ?_; refine hx_plain rfl ?_; refine h_assign rfl rfl rfl rfl ?_; refine hx_nil ?_; refine hq_then ?_; refine hc_ret ?_)
    refine hq_retD1 (.inr rfl) rfl EC.out (.cons .head .nil) (end_err p _ _ _ er her) ?_
    rintro u M ⟨rfl, rfl⟩
    exact ⟨_, _, rv_tmp rfl, ⟨rfl, rfl⟩, fun _ h => RdrX_shut (g := b) (c := c) h⟩
  subst her
  refine hc_condDT rfl rfl ?_
  by_cases h1 : bs.length < at_ + 8
  · have e1 : SumR bs at_ 0 = (0, at_, 11) := by unfold SumR; rw [if_neg (by simp), if_pos h1]
    rw [e1]
    refine hc_callP (f := 53) [_] rfl rfl rfl EC.out ?_
    (refine hx_plain rfl ?_; refine h_move rfl rfl rfl rfl ?_; refine hx_nil ?_)
    refine PanicAt.mk rfl rfl (.cons .head (.cons .head .nil)) (take_panic p b c bs _ _ at_ 8 (by omega) hl (by omega)) ?_
    rintro ch M ⟨rfl, rfl⟩
    repeat (with_reducible refine hq_panic_then ?_)
    refine hq_panD1 hI hF rfl EC.out (.cons .head .nil) (end_panic p _ _ _ 11 E g) ?_
    rintro u M ⟨rfl, rfl⟩
    exact ⟨_, _, rv_tmp rfl, ⟨rfl, rfl⟩, fun _ h => RdrX_shut (g := b) (c := c) h⟩
  have e1 : SumR bs at_ 0 = (N8 bs at_, at_ + 8, 0) := by unfold SumR; rw [if_neg (by simp), if_neg h1]
  rw [e1]
  refine hc_lex ?_
  (refine hx_plain rfl ?_; refine h_move rfl rfl rfl rfl ?_; refine hx_plain rfl ?_)
  refine h_call rfl rfl rfl rfl rfl rfl rfl rfl EC.out (.cons .head (.cons .head .nil)) (take_spec p b c bs _ _ at_ 8 (by omega) hc hl) ?_
  rintro u M ⟨rfl, rfl⟩
  (refine hx_plain rfl ?_)
  refine h_callRd rfl rfl rfl rfl rfl rfl EC.out (fun w' h => number_reads (h.rdSub (.tail .head) (by omega))) ?_
  have eN : numR ((bs.drop at_).take 8) = N8 bs at_ := rfl
  rw [eN, show (at_ : Int) + ((8 : Nat) : Int) = ((at_ + 8 : Nat) : Int) by omega]
  (refine hx_plain rfl ?_; refine h_assign rfl rfl rfl rfl ?_; refine hx_nil ?_; refine hq_then ?_; refine hc_seq ?_; refine hc_lex ?_; refine hx_plain rfl ?_; refine h_move rfl rfl rfl rfl ?_; refine hx_plain rfl ?_; refine h_assign rfl rfl rfl rfl ?_; refine hx_nil ?_; refine hq_then ?_; refine hc_ret ?_)
  refine hq_retD1 (.inr rfl) rfl EC.out (.cons .head .nil) (end_spec p _ _ _) ?_
  rintro u M ⟨rfl, rfl⟩
  exact ⟨_, _, rv_tmp rfl, ⟨rfl, rfl⟩, fun _ h => RdrX_shut (g := b) (c := c) h⟩
end
end Go.Proofs.YtjnnlfeohbidhaaDoor
