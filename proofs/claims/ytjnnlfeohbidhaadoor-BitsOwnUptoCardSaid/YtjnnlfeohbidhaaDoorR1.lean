import Derived.Test.YtjnnlfeohbidhaaDoorL11
namespace Go.Proofs.YtjnnlfeohbidhaaDoor
open Go Go.Proofs Go.RowKit
set_option maxRecDepth 4000

/-! ### The document's reader -/
def RRd (q : Nat) (bs : List Int) (at_ : Nat) (er : Int) : Asn := Ex fun x : Option Addr × Nat => All [Blk q (.cells #[.slice x.1 bs.length x.2, .int .i64 (at_ : Int), .int .i64 er] 79 (0, 0)), RowV byteE 5 (.slice x.1 bs.length x.2) bs]
theorem RRd_open {q : Nat} {bs : List Int} {at_ : Nat} {er : Int} (w w0 : World) (F0 : Nat → Prop) (R : List Asn) (h : St w0 F0 (RRd q bs at_ er :: R) w) : ∃ x : Option Addr × Nat, St w0 F0 ([Blk q (.cells #[.slice x.1 bs.length x.2, .int .i64 (at_ : Int), .int .i64 er] 79 (0, 0)), RowV byteE 5 (.slice x.1 bs.length x.2) bs] ++ R) w := by
  obtain ⟨x, hx⟩ := St.ex.1 h
  exact ⟨x, St.all.1 hx⟩
theorem RRd_shut {q : Nat} {a : Option Addr} {c : Nat} {bs : List Int} {at_ : Nat} {er : Int} {w w0 : World} {F0 : Nat → Prop} {R : List Asn} (h : St w0 F0 (Blk q (.cells #[.slice a bs.length c, .int .i64 (at_ : Int), .int .i64 er] 79 (0, 0)) :: RowV byteE 5 (.slice a bs.length c) bs :: R) w) : St w0 F0 (RRd q bs at_ er :: R) w :=
  St.ex.2 ⟨(a, c), St.all.2 h⟩
set_option maxHeartbeats 1000000 in
theorem rnew_makes {bs : List Int} {w : World} {v : Value} (h1 : Rd byteE w v bs) (hl : bs.length ≤ 140737488355200) :
    Makes Tryd.prog 32 [v] w (fun u M => ∃ q, u = .pointer (some ⟨q, 0, none⟩) ∧ M = [RRd q bs 0 0]) := by
  refine makes_of Tryd.func32 rfl rfl (Nat.le_of_ble_eq_true rfl) ?_
  (refine hc_seq ?_; refine hc_lex ?_; refine hx_plain rfl ?_; refine h_assign rfl rfl rfl rfl ?_; refine hx_nil ?_; refine hq_then ?_; refine hc_seq ?_; refine hc_lex ?_; refine hx_plain rfl ?_; refine h_move rfl rfl rfl rfl ?_; refine hx_plain rfl ?_)
  refine h_callW (post := fun u M => ∃ a c, u = .slice a bs.length c ∧ M = [RowV byteE 5 u bs]) rfl rfl rfl rfl rfl rfl rfl rfl EC.out (fun w' h => (bytes_makes (h.rd h1) (by omega)).shape) ?_
  rintro vl M ⟨a, c, rfl, rfl⟩
  (refine hx_plain rfl ?_; refine h_build rfl inferInstance rfl rfl rfl rfl ?_; refine hx_plain rfl ?_; (refine h_box rfl rfl rfl rfl rfl rfl (fun _ => ?_)); refine hx_plain rfl ?_; refine h_assign rfl rfl rfl rfl ?_; refine hx_nil ?_; refine hq_then ?_; refine hc_ret ?_)
  refine hq_ret1 (.inr rfl) rfl rfl ⟨_, rfl, rfl⟩ (fun _ h => RRd_shut h)
def NumR (bs : List Int) (at_ : Nat) (er : Int) (n : Nat) : Int × Bool × Int :=
  if er ≠ 0 then (0, false, er) else if bs.length < at_ + n then (0, false, 11) else (numR ((bs.drop at_).take n), true, 0)
theorem numP_snoc (l : List Int) (c : Int) : numP 0 (l ++ [c]) = numP 0 l * 256 + c := by
  unfold numP
  rw [List.foldl_append]
  rfl
set_option maxHeartbeats 2000000 in
theorem rnum_spec (q : Nat) (bs : List Int) (at_ : Nat) (er : Int) (n : Nat) (hn : n ≤ 8) (hb : Byts bs) (hl : bs.length ≤ 140737488355200) (hat : at_ ≤ bs.length) :
    Spec Tryd.prog 69 [.pointer (some ⟨q, 0, none⟩), .int .i64 (n : Int)] [RRd q bs at_ er] (fun u M => u = .tuple #[.int .u64 (NumR bs at_ er n).1, .bool (NumR bs at_ er n).2.1] ∧ M = [RRd q bs at_ (NumR bs at_ er n).2.2]) := by
  refine spec_of Tryd.func69 rfl rfl (Nat.le_of_ble_eq_true rfl) (fun w F => ?_)
  refine hc_open .head RRd_open ?_
  rintro ⟨a, c⟩
  dsimp only
  by_cases her : er = 0
  case neg =>
    have e1 : NumR bs at_ er n = (0, false, er) := if_pos her
    rw [e1]
    (refine hc_seq ?_; refine hc_lex ?_; refine hx_plain rfl ?_; refine h_assign rfl rfl rfl rfl ?_; refine hx_plain rfl ?_; refine h_assign rfl rfl rfl rfl ?_; refine hx_nil ?_; refine hq_then ?_; refine hc_seq ?_; refine hc_seq ?_; refine hc_lex ?_; refine hx_plain rfl ?_; refine h_move rfl rfl rfl rfl ?_; refine hx_plain rfl ?_; refine h_nilCheck rfl rfl rfl rfl ?_; refine hx_plain rfl ?_; refine h_fieldAddr0 rfl rfl FC.out rfl rfl ?_; refine hx_plain rfl ?_; refine h_load rfl rfl UC.out rfl .head rfl rfl rfl ?_; refine hx_plain rfl ?_; refine h_cmp rfl rfl rfl rfl rfl rfl ?_; refine hx_nil ?_; refine hq_then ?_; refine hc_condDT rfl (by omega) ?_; refine hc_seq ?_; refine hc_lex ?_; refine hx_plain rfl ?_; refine h_assign rfl rfl rfl rfl ?_; refine hx_plain rfl ?_; refine h_assign rfl rfl rfl rfl ?_; refine hx_nil ?_; refine hq_then ?_; refine hc_ret ?_; refine hq_ret_then ?_)
    exact hq_ret2 (.inr rfl) rfl rfl rfl ⟨rfl, rfl⟩ (fun _ h => RRd_shut h)
  subst her
  by_cases h1 : bs.length < at_ + n
  · have e1 : NumR bs at_ 0 n = (0, false, 11) := by unfold NumR; rw [if_neg (by simp), if_pos h1]
    rw [e1]
    (refine hc_seq ?_; refine hc_lex ?_; refine hx_plain rfl ?_; refine h_assign rfl rfl rfl rfl ?_; refine hx_plain rfl ?_; refine h_assign rfl rfl rfl rfl ?_; refine hx_nil ?_; refine hq_then ?_; refine hc_seq ?_; refine hc_seq ?_; refine hc_lex ?_; refine hx_plain rfl ?_; refine h_move rfl rfl rfl rfl ?_; refine hx_plain rfl ?_; refine h_nilCheck rfl rfl rfl rfl ?_; refine hx_plain rfl ?_; refine h_fieldAddr0 rfl rfl FC.out rfl rfl ?_; refine hx_plain rfl ?_; refine h_load rfl rfl UC.out rfl .head rfl rfl rfl ?_; refine hx_plain rfl ?_; refine h_cmp rfl rfl rfl rfl rfl rfl ?_; refine hx_nil ?_; refine hq_then ?_; refine hc_condF rfl ?_; refine hc_skip ?_; refine hq_then ?_; refine hc_seq ?_; refine hc_seq ?_; refine hc_draw0 (by kernel_rfl) (by kernel_rfl) ?_; refine hx_plain rfl ?_; refine h_move rfl rfl rfl rfl ?_; refine hx_plain rfl ?_; refine h_nilCheck rfl rfl rfl rfl ?_; refine hx_plain rfl ?_; refine h_fieldAddr0 rfl rfl FC.out rfl rfl ?_; refine hx_plain rfl ?_; refine h_load rfl rfl UC.out rfl .head rfl rfl rfl ?_; refine hx_plain rfl ?_; refine h_len_slice rfl rfl rfl UC.out rfl rfl rfl ?_; refine hx_plain rfl ?_; refine h_move rfl rfl rfl rfl ?_; refine hx_plain rfl ?_; refine h_nilCheck rfl rfl rfl rfl ?_; refine hx_plain rfl ?_; refine h_fieldAddr0 rfl rfl FC.out rfl rfl ?_; refine hx_plain rfl ?_; refine h_load rfl rfl UC.out rfl .head rfl rfl rfl ?_; refine hx_plain rfl ?_; refine h_arithI rfl rfl rfl rfl (by omega) rfl rfl ?_; refine hx_plain rfl ?_; refine h_move rfl rfl rfl rfl ?_; refine hx_plain rfl ?_; refine h_cmp rfl rfl rfl rfl rfl rfl ?_; refine hx_nil ?_; refine hq_then ?_; refine hc_condDT rfl (by omega) ?_; refine hc_seq ?_; refine hc_lex ?_; refine hx_plain rfl ?_; refine h_move rfl rfl rfl rfl ?_; refine hx_plain rfl ?_; refine h_nilCheck rfl rfl rfl rfl ?_; refine hx_plain rfl ?_; refine h_fieldAddr0 rfl rfl FC.out rfl rfl ?_; refine hx_plain rfl ?_; refine h_store1 rfl rfl rfl rfl rfl rfl IC.size .head rfl rfl rfl ?_; refine hx_nil ?_; refine hq_then ?_; refine hc_seq ?_; refine hc_lex ?_; refine hx_plain rfl ?_; refine h_assign rfl rfl rfl rfl ?_; refine hx_plain rfl ?_; refine h_assign rfl rfl rfl rfl ?_; refine hx_nil ?_; refine hq_then ?_; refine hc_ret ?_; refine hq_ret_then ?_)
    exact hq_ret2 (.inr rfl) rfl rfl rfl ⟨rfl, rfl⟩ (fun _ h => RRd_shut h)
  have e1 : NumR bs at_ 0 n = (numR ((bs.drop at_).take n), true, 0) := by unfold NumR; rw [if_neg (by simp), if_neg h1]
  rw [e1]
  have hby := byts_sub hb at_
  (refine hc_seq ?_; refine hc_lex ?_; refine hx_plain rfl ?_; refine h_assign rfl rfl rfl rfl ?_; refine hx_plain rfl ?_; refine h_assign rfl rfl rfl rfl ?_; refine hx_nil ?_; refine hq_then ?_; refine hc_seq ?_; refine hc_seq ?_; refine hc_lex ?_; refine hx_plain rfl ?_; refine h_move rfl rfl rfl rfl ?_; refine hx_plain rfl ?_; refine h_nilCheck rfl rfl rfl rfl ?_; refine hx_plain rfl ?_; refine h_fieldAddr0 rfl rfl FC.out rfl rfl ?_; refine hx_plain rfl ?_; refine h_load rfl rfl UC.out rfl .head rfl rfl rfl ?_; refine hx_plain rfl ?_; refine h_cmp rfl rfl rfl rfl rfl rfl ?_; refine hx_nil ?_; refine hq_then ?_; refine hc_condF rfl ?_; refine hc_skip ?_; refine hq_then ?_; refine hc_seq ?_; refine hc_seq ?_; refine hc_draw0 (by kernel_rfl) (by kernel_rfl) ?_; refine hx_plain rfl ?_; refine h_move rfl rfl rfl rfl ?_; refine hx_plain rfl ?_; refine h_nilCheck rfl rfl rfl rfl ?_; refine hx_plain rfl ?_; refine h_fieldAddr0 rfl rfl FC.out rfl rfl ?_; refine hx_plain rfl ?_; refine h_load rfl rfl UC.out rfl .head rfl rfl rfl ?_; refine hx_plain rfl ?_; refine h_len_slice rfl rfl rfl UC.out rfl rfl rfl ?_; refine hx_plain rfl ?_; refine h_move rfl rfl rfl rfl ?_; refine hx_plain rfl ?_; refine h_nilCheck rfl rfl rfl rfl ?_; refine hx_plain rfl ?_; refine h_fieldAddr0 rfl rfl FC.out rfl rfl ?_; refine hx_plain rfl ?_; refine h_load rfl rfl UC.out rfl .head rfl rfl rfl ?_; refine hx_plain rfl ?_; refine h_arithI rfl rfl rfl rfl (by omega) rfl rfl ?_; refine hx_plain rfl ?_; refine h_move rfl rfl rfl rfl ?_; refine hx_plain rfl ?_; refine h_cmp rfl rfl rfl rfl rfl rfl ?_; refine hx_nil ?_; refine hq_then ?_; refine hc_condDF rfl (by omega) ?_; refine hc_skip ?_; refine hq_then ?_; refine hc_seq ?_; refine hc_lex ?_; refine hx_plain rfl ?_; refine h_assign rfl rfl rfl rfl ?_; refine hx_nil ?_; refine hq_then ?_; refine hc_seq ?_; refine hc_seq ?_; refine hc_lex ?_; refine hx_plain rfl ?_; refine h_assign rfl rfl rfl rfl ?_; refine hx_nil ?_; refine hq_then ?_; refine hc_block ?_)
  refine hc_cut (id := 0) (Y := Unit) (fun _ => [(6, .int .u64 (numR ((bs.drop at_).take n)))]) (fun _ => [RRd q bs at_ 0]) (fun _ => True) ?_ ?_
  · refine hc_loop (X := Nat × Int) (fun x => [(0, .pointer (some ⟨q, 0, none⟩)), (1, .int .i64 (n : Int)), (6, .int .u64 x.2), (7, .int .i64 (x.1 : Int))]) (fun x => [Blk q (.cells #[.slice a bs.length c, .int .i64 (at_ : Int), .int .i64 0] 79 (0, 0)), RowV byteE 5 (.slice a bs.length c) bs]) (fun x => x.1 ≤ n ∧ x.2 = numR ((bs.drop at_).take x.1)) (fun x => n - x.1) (0, 0) (.cons rfl (.cons rfl (.cons rfl (.cons rfl .nil)))) ⟨Nat.zero_le _, by simp [numR]⟩ (fun _ h => h) ?_
    rintro ⟨i, x⟩ ⟨hi, hx⟩
    dsimp only at hi hx ⊢
    by_cases hlt : i < n
    case neg =>
      obtain rfl : i = n := by omega
      subst hx
      (refine hc_seq ?_; refine hc_seq ?_; refine hc_lex ?_; refine hx_plain rfl ?_; refine h_move rfl rfl rfl rfl ?_; refine hx_plain rfl ?_; refine h_move rfl rfl rfl rfl ?_; refine hx_plain rfl ?_; refine h_cmp rfl rfl rfl rfl rfl rfl ?_; refine hx_nil ?_; refine hq_then ?_; refine hc_condDF rfl (by omega) ?_; refine hc_exit ?_; refine hq_exit_then ?_; refine hq_exit_then ?_)
      exact hq_cut () trivial (.cons rfl .nil) (fun _ h => RRd_shut h)
    refine hc_rowV (.tail .head) (fun _ e => by rw [e] at h1; exact absurd (show (0 : Nat) < at_ + n by omega) h1) ?_
    intro g cap e
    injection e with e2 e3 e4
    subst e2 e4
    have hlb : at_ + i < bs.length := by omega
    have hg : bs[at_ + i]? = some bs[at_ + i] := List.getElem?_eq_getElem hlb
    have hcb := hb _ (List.getElem_mem hlb)
    obtain ⟨q1, q2, q3⟩ := numR_eq (hby i) (by rw [List.length_take]; omega)
    have q4 : (256 : Int) ^ ((bs.drop at_).take i).length ≤ 256 ^ 7 := pow256_le (by rw [List.length_take]; omega)
    have q5 : (256 : Int) ^ 7 = 72057594037927936 := by decide
    have hsn : (bs.drop at_).take (i + 1) = (bs.drop at_).take i ++ [bs[at_ + i]] := by
      rw [take_succ1 (by rw [List.length_drop]; omega), List.getElem_drop]
    have hnx : numR ((bs.drop at_).take (i + 1)) = x * 256 + bs[at_ + i] := by
      rw [(numR_eq (hby (i + 1)) (by rw [List.length_take]; omega)).1, hsn, numP_snoc, ← q1, hx]
    have hx2 : 0 ≤ x ∧ x < 72057594037927936 := by rw [hx, q1]; omega
    obtain ⟨b, hbe⟩ : ∃ b, bs[at_ + i] = b := ⟨_, rfl⟩
    rw [hbe] at hg hcb hnx
    clear hx
    have w1 : IntKind.u64.wrap (x * 256) = x * 256 := wrapU_in (by omega)
    have w2 : IntKind.u64.wrap b = b := wrapU_in (by omega)
    have w3 : IntKind.u64.wrap (x * 256 + b) = x * 256 + b := wrapU_in (by omega)
    (refine hc_seq ?_; refine hc_seq ?_; refine hc_lex ?_; refine hx_plain rfl ?_; refine h_move rfl rfl rfl rfl ?_; refine hx_plain rfl ?_; refine h_move rfl rfl rfl rfl ?_; refine hx_plain rfl ?_; refine h_cmp rfl rfl rfl rfl rfl rfl ?_; refine hx_nil ?_; refine hq_then ?_; refine hc_condDT rfl (by omega) ?_; refine hc_skip ?_; refine hq_then ?_; refine hc_seq ?_; refine hc_block ?_; refine hc_draw0 (by kernel_rfl) (by kernel_rfl) ?_; refine hx_plain rfl ?_; refine h_move rfl rfl rfl rfl ?_; refine hx_plain rfl ?_; refine h_arith rfl rfl rfl rfl rfl rfl ?_; refine hx_plain rfl ?_; refine h_move rfl rfl rfl rfl ?_; refine hx_plain rfl ?_; refine h_nilCheck rfl rfl rfl rfl ?_; refine hx_plain rfl ?_; refine h_fieldAddr0 rfl rfl FC.out rfl rfl ?_; refine hx_plain rfl ?_; refine h_load rfl rfl UC.out rfl (.tail .head) rfl rfl rfl ?_; refine hx_plain rfl ?_; refine h_move rfl rfl rfl rfl ?_; refine hx_plain rfl ?_; refine h_nilCheck rfl rfl rfl rfl ?_; refine hx_plain rfl ?_; refine h_fieldAddr0 rfl rfl FC.out rfl rfl ?_; refine hx_plain rfl ?_; refine h_load rfl rfl UC.out rfl (.tail .head) rfl rfl rfl ?_; refine hx_plain rfl ?_; refine h_move rfl rfl rfl rfl ?_; refine hx_plain rfl ?_; refine h_arithI rfl rfl rfl rfl (by omega) rfl rfl ?_; refine hx_plain rfl ?_; refine h_rowAddr rfl rfl rfl UC.out IC.size (by omega) (by omega) rfl rfl ?_; refine hx_plain rfl ?_)
    rw [show (at_ : Int) + (i : Int) = ((at_ + i : Nat) : Int) by omega]
    refine h_rowLoad1 (i := at_ + i) (y := b) rfl .head rfl UC.out rfl hg rfl rfl rfl ?_
    (refine hx_plain rfl ?_; refine h_convInt rfl rfl UC.out UC.out rfl rfl ?_; refine hx_plain rfl ?_; refine h_arith rfl rfl rfl rfl rfl rfl ?_; refine hx_plain rfl ?_; refine h_assign rfl rfl rfl rfl ?_; refine hx_nil ?_; refine hq_norm_block ?_; refine hq_then ?_; refine hc_lex ?_; refine hx_plain rfl ?_; refine h_move rfl rfl rfl rfl ?_; refine hx_plain rfl ?_; refine h_arithI rfl rfl rfl rfl (by omega) rfl rfl ?_; refine hx_plain rfl ?_; refine h_assign rfl rfl rfl rfl ?_; refine hx_nil ?_)
    refine hq_round (i + 1, IntKind.u64.wrap (IntKind.u64.wrap (x * 256) + IntKind.u64.wrap b)) (by show n - (i + 1) < n - i; omega) ⟨by show i + 1 ≤ n; omega, by show IntKind.u64.wrap (IntKind.u64.wrap (x * 256) + IntKind.u64.wrap b) = _; rw [w1, w2, w3, hnx]⟩ (.cons rfl (.cons rfl (.cons rfl (.cons rfl .nil)))) (fun _ h => ?_)
    exact (h.rowV_mk).sub (.cons (.tail .head) (.cons .head .nil))
  rintro ⟨⟩ _
  (refine hq_exit_block ?_; refine hq_then ?_; refine hc_seq ?_; refine hc_lex ?_; refine hx_plain rfl ?_; refine h_move rfl rfl rfl rfl ?_; refine hx_plain rfl ?_; refine h_assign rfl rfl rfl rfl ?_; refine hx_plain rfl ?_; refine h_assign rfl rfl rfl rfl ?_; refine hx_nil ?_; refine hq_then ?_; refine hc_ret ?_)
  exact hq_ret2 (.inr rfl) rfl rfl rfl ⟨rfl, rfl⟩ (fun _ h => h)

def BndR (bs : List Int) (at_ : Nat) (er : Int) (n : Nat) (most : Int) : Int × Nat × Int :=
  if (NumR bs at_ er n).2.1 = true then (if most < 0 ∨ IntKind.u64.wrap most < (NumR bs at_ er n).1 then (0, at_, 12) else (IntKind.i64.wrap (NumR bs at_ er n).1, at_ + n, 0)) else (0, at_, (NumR bs at_ er n).2.2)
set_option maxHeartbeats 2000000 in
theorem rbnd_spec (q : Nat) (bs : List Int) (at_ : Nat) (er : Int) (n : Nat) (most : Int) (hn : n ≤ 8) (hb : Byts bs) (hl : bs.length ≤ 140737488355200) (hat : at_ ≤ bs.length) :
    Spec Tryd.prog 68 [.pointer (some ⟨q, 0, none⟩), .int .i64 (n : Int), .int .i64 most] [RRd q bs at_ er] (fun u M => u = .int .i64 (BndR bs at_ er n most).1 ∧ M = [RRd q bs (BndR bs at_ er n most).2.1 (BndR bs at_ er n most).2.2]) := by
  refine spec_of Tryd.func68 rfl rfl (Nat.le_of_ble_eq_true rfl) (fun w F => ?_)
  have hz : ∀ ok : Bool, (NumR bs at_ er n).2.1 = ok → (ok = true → er = 0 ∧ at_ + n ≤ bs.length ∧ (NumR bs at_ er n).2.2 = 0) := by
    intro ok h1 h2
    subst h2
    unfold NumR at h1 ⊢
    split at h1
    · cases h1
    · split at h1
      · cases h1
      · rename_i h3 h4
        rw [if_neg h3, if_neg h4]
        exact ⟨Classical.not_not.1 h3, by omega, rfl⟩
  have hs := rnum_spec q bs at_ er n hn hb hl hat
  unfold BndR
  generalize NumR bs at_ er n = N at hs hz ⊢
  obtain ⟨v, ok, er2⟩ := N
  dsimp only at hs hz ⊢
  (refine hc_seq ?_; refine hc_lex ?_; refine hx_plain rfl ?_; refine h_assign rfl rfl rfl rfl ?_; refine hx_nil ?_; refine hq_then ?_; refine hc_seq ?_; refine hc_lex ?_; refine hx_plain rfl ?_; refine h_move rfl rfl rfl rfl ?_; refine hx_plain rfl ?_; refine h_move rfl rfl rfl rfl ?_; refine hx_plain rfl ?_)
  refine h_call rfl rfl rfl rfl rfl rfl rfl rfl EC.out (.cons .head .nil) hs ?_
  rintro u M ⟨rfl, rfl⟩
  cases ok with
  | false =>
    rw [if_neg (by simp)]
    (refine hx_plain rfl ?_; refine h_move rfl rfl rfl rfl ?_; refine hx_plain rfl ?_; refine h_extract rfl rfl rfl rfl rfl ?_; refine hx_plain rfl ?_; refine h_extract rfl rfl rfl rfl rfl ?_; refine hx_plain rfl ?_; refine h_assign rfl rfl rfl rfl ?_; refine hx_plain rfl ?_; refine h_assign rfl rfl rfl rfl ?_; refine hx_nil ?_; refine hq_then ?_; refine hc_seq ?_; refine hc_seq ?_; refine hc_lex ?_; refine hx_plain rfl ?_; refine h_move rfl rfl rfl rfl ?_; refine hx_plain rfl ?_; refine h_not rfl rfl rfl rfl ?_; refine hx_nil ?_; refine hq_then ?_; refine hc_condT rfl ?_; refine hc_seq ?_; refine hc_lex ?_; refine hx_plain rfl ?_; refine h_assign rfl rfl rfl rfl ?_; refine hx_nil ?_; refine hq_then ?_; refine hc_ret ?_; refine hq_ret_then ?_)
    exact hq_ret1 (.inr rfl) rfl rfl ⟨rfl, rfl⟩ (fun _ h => h)
  | true =>
    obtain ⟨rfl, hle, rfl⟩ := hz true rfl rfl
    rw [if_pos rfl]
    (refine hx_plain rfl ?_; refine h_move rfl rfl rfl rfl ?_; refine hx_plain rfl ?_; refine h_extract rfl rfl rfl rfl rfl ?_; refine hx_plain rfl ?_; refine h_extract rfl rfl rfl rfl rfl ?_; refine hx_plain rfl ?_; refine h_assign rfl rfl rfl rfl ?_; refine hx_plain rfl ?_; refine h_assign rfl rfl rfl rfl ?_; refine hx_nil ?_; refine hq_then ?_)
    refine hc_open .head RRd_open ?_
    rintro ⟨a, c⟩
    dsimp only
    by_cases h0 : most < 0
    · rw [if_pos (.inl h0)]
      (refine hc_seq ?_; refine hc_seq ?_; refine hc_lex ?_; refine hx_plain rfl ?_; refine h_move rfl rfl rfl rfl ?_; refine hx_plain rfl ?_; refine h_not rfl rfl rfl rfl ?_; refine hx_nil ?_; refine hq_then ?_; refine hc_condF rfl ?_; refine hc_skip ?_; refine hq_then ?_; refine hc_seq ?_; refine hc_seq ?_; refine hc_lex ?_; refine hx_plain rfl ?_; refine h_move rfl rfl rfl rfl ?_; refine hx_plain rfl ?_; refine h_cmp rfl rfl rfl rfl rfl rfl ?_; refine hx_plain rfl ?_; refine h_move rfl rfl rfl rfl ?_; refine hx_gT rfl rfl rfl (by omega) ?_; refine hx_skip rfl rfl rfl rfl rfl rfl ?_; refine hx_skip rfl rfl rfl rfl rfl rfl ?_; refine hx_skip rfl rfl rfl rfl rfl rfl ?_; refine hx_skip rfl rfl rfl rfl rfl rfl ?_; refine hx_plain rfl ?_; refine h_pickT rfl rfl rfl rfl rfl ?_; refine hx_nil ?_; refine hq_then ?_; refine hc_condT rfl ?_; refine hc_seq ?_; refine hc_lex ?_; refine hx_plain rfl ?_; refine h_move rfl rfl rfl rfl ?_; refine hx_plain rfl ?_; refine h_nilCheck rfl rfl rfl rfl ?_; refine hx_plain rfl ?_; refine h_fieldAddr0 rfl rfl FC.out rfl rfl ?_; refine hx_plain rfl ?_; refine h_store1 rfl rfl rfl rfl rfl rfl IC.size .head rfl rfl rfl ?_; refine hx_nil ?_; refine hq_then ?_; refine hc_seq ?_; refine hc_lex ?_; refine hx_plain rfl ?_; refine h_assign rfl rfl rfl rfl ?_; refine hx_nil ?_; refine hq_then ?_; refine hc_ret ?_; refine hq_ret_then ?_)
      exact hq_ret1 (.inr rfl) rfl rfl ⟨rfl, rfl⟩ (fun _ h => RRd_shut h)
    by_cases h2 : IntKind.u64.wrap most < v
    · rw [if_pos (.inr h2)]
      (refine hc_seq ?_; refine hc_seq ?_; refine hc_lex ?_; refine hx_plain rfl ?_; refine h_move rfl rfl rfl rfl ?_; refine hx_plain rfl ?_; refine h_not rfl rfl rfl rfl ?_; refine hx_nil ?_; refine hq_then ?_; refine hc_condF rfl ?_; refine hc_skip ?_; refine hq_then ?_; refine hc_seq ?_; refine hc_seq ?_; refine hc_lex ?_; refine hx_plain rfl ?_; refine h_move rfl rfl rfl rfl ?_; refine hx_plain rfl ?_; refine h_cmp rfl rfl rfl rfl rfl rfl ?_; refine hx_plain rfl ?_; refine h_move rfl rfl rfl rfl ?_; refine hx_gF rfl rfl rfl (by omega) ?_; refine hx_yes rfl rfl rfl ?_; refine h_move rfl rfl rfl rfl ?_; refine hx_yes rfl rfl rfl ?_; refine h_move rfl rfl rfl rfl ?_; refine hx_yes rfl rfl rfl ?_; refine h_convInt rfl rfl UC.out UC.out rfl rfl ?_; refine hx_yes rfl rfl rfl ?_; refine h_cmp rfl rfl rfl rfl rfl rfl ?_; refine hx_plain rfl ?_; refine h_pickF rfl rfl rfl rfl rfl ?_; refine hx_nil ?_; refine hq_then ?_; refine hc_condDT rfl (by omega) ?_; refine hc_seq ?_; refine hc_lex ?_; refine hx_plain rfl ?_; refine h_move rfl rfl rfl rfl ?_; refine hx_plain rfl ?_; refine h_nilCheck rfl rfl rfl rfl ?_; refine hx_plain rfl ?_; refine h_fieldAddr0 rfl rfl FC.out rfl rfl ?_; refine hx_plain rfl ?_; refine h_store1 rfl rfl rfl rfl rfl rfl IC.size .head rfl rfl rfl ?_; refine hx_nil ?_; refine hq_then ?_; refine hc_seq ?_; refine hc_lex ?_; refine hx_plain rfl ?_; refine h_assign rfl rfl rfl rfl ?_; refine hx_nil ?_; refine hq_then ?_; refine hc_ret ?_; refine hq_ret_then ?_)
      exact hq_ret1 (.inr rfl) rfl rfl ⟨rfl, rfl⟩ (fun _ h => RRd_shut h)
    rw [if_neg (fun h => h.elim h0 h2)]
    (refine hc_seq ?_; refine hc_seq ?_; refine hc_lex ?_; refine hx_plain rfl ?_; refine h_move rfl rfl rfl rfl ?_; refine hx_plain rfl ?_; refine h_not rfl rfl rfl rfl ?_; refine hx_nil ?_; refine hq_then ?_; refine hc_condF rfl ?_; refine hc_skip ?_; refine hq_then ?_; refine hc_seq ?_; refine hc_seq ?_; refine hc_lex ?_; refine hx_plain rfl ?_; refine h_move rfl rfl rfl rfl ?_; refine hx_plain rfl ?_; refine h_cmp rfl rfl rfl rfl rfl rfl ?_; refine hx_plain rfl ?_; refine h_move rfl rfl rfl rfl ?_; refine hx_gF rfl rfl rfl (by omega) ?_; refine hx_yes rfl rfl rfl ?_; refine h_move rfl rfl rfl rfl ?_; refine hx_yes rfl rfl rfl ?_; refine h_move rfl rfl rfl rfl ?_; refine hx_yes rfl rfl rfl ?_; refine h_convInt rfl rfl UC.out UC.out rfl rfl ?_; refine hx_yes rfl rfl rfl ?_; refine h_cmp rfl rfl rfl rfl rfl rfl ?_; refine hx_plain rfl ?_; refine h_pickF rfl rfl rfl rfl rfl ?_; refine hx_nil ?_; refine hq_then ?_; refine hc_condDF rfl (by omega) ?_; refine hc_skip ?_; refine hq_then ?_; refine hc_seq ?_; refine hc_lex ?_; refine hx_plain rfl ?_; refine h_move rfl rfl rfl rfl ?_; refine hx_plain rfl ?_; refine h_move rfl rfl rfl rfl ?_; refine hx_plain rfl ?_; refine h_nilCheck rfl rfl rfl rfl ?_; refine hx_plain rfl ?_; refine h_fieldAddr0 rfl rfl FC.out rfl rfl ?_; refine hx_plain rfl ?_; refine h_load rfl rfl UC.out rfl .head rfl rfl rfl ?_; refine hx_plain rfl ?_; refine h_move rfl rfl rfl rfl ?_; refine hx_plain rfl ?_; refine h_arithI rfl rfl rfl rfl (by omega) rfl rfl ?_; refine hx_plain rfl ?_; refine h_nilCheck rfl rfl rfl rfl ?_; refine hx_plain rfl ?_; refine h_fieldAddr0 rfl rfl FC.out rfl rfl ?_; refine hx_plain rfl ?_; refine h_store1 rfl rfl rfl rfl rfl rfl IC.size .head rfl rfl rfl ?_; refine hx_nil ?_; refine hq_then ?_; refine hc_seq ?_; refine hc_lex ?_; refine hx_plain rfl ?_; refine h_move rfl rfl rfl rfl ?_; refine hx_plain rfl ?_; refine h_convInt rfl rfl UC.out UC.out rfl rfl ?_; refine hx_plain rfl ?_; refine h_assign rfl rfl rfl rfl ?_; refine hx_nil ?_; refine hq_then ?_; refine hc_ret ?_)
    rw [show (at_ : Int) + (n : Int) = ((at_ + n : Nat) : Int) by omega]
    exact hq_ret1 (.inr rfl) rfl rfl ⟨rfl, rfl⟩ (fun _ h => RRd_shut h)
end Go.Proofs.YtjnnlfeohbidhaaDoor
