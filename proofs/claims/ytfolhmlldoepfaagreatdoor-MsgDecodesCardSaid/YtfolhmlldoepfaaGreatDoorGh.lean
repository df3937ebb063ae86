import Derived.Test.YtfolhmlldoepfaaGreatDoorGp
import Derived.Test.YtfolhmlldoepfaaGreatDoorGr
import Derived.Test.YtfolhmlldoepfaaGreatDoorGd
import Derived.Test.YtfolhmlldoepfaaGreatDoorGe
import Derived.Test.YtfolhmlldoepfaaGreatDoorGk
namespace Go.Proofs.YtfolhmlldoepfaaGreatDoor
open Go Go.Proofs Go.RowKit
set_option maxRecDepth 4000
theorem Makes.shape {X : Type} {E : Elem X} {T : Nat} {P : Program} {f : FuncId} {vs : List Value} {w : World} {xs : List X} (h : Makes P f vs w (fun u M => M = [RowV E T u xs])) :
    Makes P f vs w (fun u M => ∃ a c, u = .slice a xs.length c ∧ M = [RowV E T u xs]) :=
  Calls.mono h (fun _ _ ⟨v, M, e, hM, hst⟩ => by
    subst hM
    obtain ⟨a, c, e2, _⟩ := hst.rdRowV .head
    exact ⟨v, _, e, ⟨a, c, e2, rfl⟩, hst⟩)
theorem St.row_cap {X : Type} {E : Elem X} {T g cap : Nat} {w0 : World} {F0 : Nat → Prop} {L L' : List Asn} {w : World} {xs : List X} (h : St w0 F0 L w) (hp : Pull L (Row E T g cap xs) L') : xs.length ≤ cap := by
  obtain ⟨a, c, e, h1, _, _⟩ := h.rdRow hp
  injection e with _ _ e3
  subst e3
  exact h1
def RRd (q : Nat) (bs : List Int) (at_ : Nat) (er : Int) : Asn := Ex fun x : Option Addr × Nat => All [Blk q (.cells #[.slice x.1 bs.length x.2, .int .i64 (at_ : Int), .int .i64 er] 169 (0, 0)), RowV byteE 5 (.slice x.1 bs.length x.2) bs]
theorem RRd_open {q : Nat} {bs : List Int} {at_ : Nat} {er : Int} (w w0 : World) (F0 : Nat → Prop) (R : List Asn) (h : St w0 F0 (RRd q bs at_ er :: R) w) : ∃ x : Option Addr × Nat, St w0 F0 ([Blk q (.cells #[.slice x.1 bs.length x.2, .int .i64 (at_ : Int), .int .i64 er] 169 (0, 0)), RowV byteE 5 (.slice x.1 bs.length x.2) bs] ++ R) w := by
  obtain ⟨x, hx⟩ := St.ex.1 h
  exact ⟨x, St.all.1 hx⟩
theorem RRd_shut {q : Nat} {a : Option Addr} {c : Nat} {bs : List Int} {at_ : Nat} {er : Int} {w w0 : World} {F0 : Nat → Prop} {R : List Asn} (h : St w0 F0 (Blk q (.cells #[.slice a bs.length c, .int .i64 (at_ : Int), .int .i64 er] 169 (0, 0)) :: RowV byteE 5 (.slice a bs.length c) bs :: R) w) : St w0 F0 (RRd q bs at_ er :: R) w :=
  St.ex.2 ⟨(a, c), St.all.2 h⟩
set_option maxHeartbeats 1000000 in
theorem rnew_makes {bs : List Int} {w : World} {v : Value} (h1 : Rd byteE w v bs) (hl : bs.length ≤ 140737488355200) :
    Makes Tryz.prog 116 [v] w (fun u M => ∃ q, u = .pointer (some ⟨q, 0, none⟩) ∧ M = [RRd q bs 0 0]) := by
  refine makes_of Tryz.func116 rfl rfl (Nat.le_of_ble_eq_true rfl) ?_
  (refine Zx rfl rfl rfl rfl rfl ?_; refine Zw rfl rfl rfl rfl rfl ?_; refine hx_plain rfl ?_)
  refine h_callW (post := fun u M => ∃ a c, u = .slice a bs.length c ∧ M = [RowV byteE 5 u bs]) rfl rfl rfl rfl rfl rfl rfl rfl EC.out (fun w' h => (bytes_makes (h.rd h1) (by omega)).shape) ?_
  rintro vl M ⟨a, c, rfl, rfl⟩
  (refine hx_plain rfl ?_; refine h_build rfl inferInstance rfl rfl rfl rfl ?_; refine hx_plain rfl ?_; (refine h_box rfl rfl rfl rfl rfl rfl (fun _ => ?_)); refine Zn rfl rfl rfl rfl rfl ?_; refine hc_ret ?_)
  refine hq_ret1 (.inr rfl) rfl rfl ⟨_, rfl, rfl⟩ (fun _ h => RRd_shut h)
def NumR (bs : List Int) (at_ : Nat) (er : Int) (n : Nat) : Int × Bool × Int :=
  if er ≠ 0 then (0, false, er) else if bs.length < at_ + n then (0, false, 11) else (numR ((bs.drop at_).take n), true, 0)
theorem numP_snoc (l : List Int) (c : Int) : numP 0 (l ++ [c]) = numP 0 l * 256 + c := by
  unfold numP
  rw [List.foldl_append]
  rfl
set_option maxHeartbeats 2000000 in
theorem rdnum_spec (q : Nat) (bs : List Int) (at_ : Nat) (er : Int) (n : Nat) (hn : n ≤ 8) (hb : Byts bs) (hl : bs.length ≤ 140737488355200) (hat : at_ ≤ bs.length) :
    Spec Tryz.prog 119 [.pointer (some ⟨q, 0, none⟩), .int .i64 (n : Int)] [RRd q bs at_ er] (fun u M => u = .tuple #[.int .u64 (NumR bs at_ er n).1, .bool (NumR bs at_ er n).2.1] ∧ M = [RRd q bs at_ (NumR bs at_ er n).2.2]) := by
  refine spec_of Tryz.func119 rfl rfl (Nat.le_of_ble_eq_true rfl) (fun w F => ?_)
  refine hc_open .head RRd_open ?_
  rintro ⟨a, c⟩
  dsimp only
  by_cases her : er = 0
  case neg =>
    have e1 : NumR bs at_ er n = (0, false, er) := if_pos her
    rw [e1]
    (refine Zv rfl rfl rfl rfl rfl ?_; refine Zn rfl rfl rfl rfl rfl ?_; refine hc_seq ?_; refine Zw rfl rfl rfl rfl rfl ?_; refine hx_plain rfl ?_; refine h_nilCheck rfl rfl rfl rfl ?_; refine Zf rfl rfl rfl rfl rfl ?_; refine Zh rfl rfl rfl rfl rfl rfl rfl ?_; refine Zc rfl rfl rfl rfl rfl rfl rfl ?_; refine Zt ?_; refine hc_condDT rfl (by omega) ?_; refine Zv rfl rfl rfl rfl rfl ?_; refine Zn rfl rfl rfl rfl rfl ?_; refine hc_ret ?_; refine hq_ret_then ?_)
    exact hq_ret2 (.inr rfl) rfl rfl rfl ⟨rfl, rfl⟩ (fun _ h => RRd_shut h)
  subst her
  by_cases h1 : bs.length < at_ + n
  · have e1 : NumR bs at_ 0 n = (0, false, 11) := by unfold NumR; rw [if_neg (by simp), if_pos h1]
    rw [e1]
    (refine Zv rfl rfl rfl rfl rfl ?_; refine Zn rfl rfl rfl rfl rfl ?_; refine hc_seq ?_; refine Zw rfl rfl rfl rfl rfl ?_; refine hx_plain rfl ?_; refine h_nilCheck rfl rfl rfl rfl ?_; refine Zf rfl rfl rfl rfl rfl ?_; refine Zh rfl rfl rfl rfl rfl rfl rfl ?_; refine Zc rfl rfl rfl rfl rfl rfl rfl ?_; refine Zt ?_; refine hc_condF rfl ?_; refine hc_skip ?_; refine hq_then ?_; (iterate 2 (refine hc_seq ?_)); refine hc_draw0 (by kernel_rfl) (by kernel_rfl) ?_; refine Zm rfl rfl rfl rfl rfl ?_; refine hx_plain rfl ?_; refine h_nilCheck rfl rfl rfl rfl ?_; refine Zf rfl rfl rfl rfl rfl ?_; refine Zh rfl rfl rfl rfl rfl rfl rfl ?_; refine hx_plain rfl ?_; refine h_len_slice rfl rfl rfl UC.out rfl rfl rfl ?_; refine Zm rfl rfl rfl rfl rfl ?_; refine hx_plain rfl ?_; refine h_nilCheck rfl rfl rfl rfl ?_; refine Zf rfl rfl rfl rfl rfl ?_; refine Zh rfl rfl rfl rfl rfl rfl rfl ?_; refine hx_plain rfl ?_; refine h_arithI rfl rfl rfl rfl (by omega) rfl rfl ?_; refine Zm rfl rfl rfl rfl rfl ?_; refine Zc rfl rfl rfl rfl rfl rfl rfl ?_; refine Zt ?_; refine hc_condDT rfl (by omega) ?_; refine Zw rfl rfl rfl rfl rfl ?_; refine hx_plain rfl ?_; refine h_nilCheck rfl rfl rfl rfl ?_; refine Zf rfl rfl rfl rfl rfl ?_; refine hx_plain rfl ?_; refine h_store1 rfl rfl rfl rfl rfl rfl IC.size .head rfl rfl rfl ?_; refine Zt ?_; refine Zv rfl rfl rfl rfl rfl ?_; refine Zn rfl rfl rfl rfl rfl ?_; refine hc_ret ?_; refine hq_ret_then ?_)
    exact hq_ret2 (.inr rfl) rfl rfl rfl ⟨rfl, rfl⟩ (fun _ h => RRd_shut h)
  have e1 : NumR bs at_ 0 n = (numR ((bs.drop at_).take n), true, 0) := by unfold NumR; rw [if_neg (by simp), if_neg h1]
  rw [e1]
  have hby := byts_sub hb at_
  (refine Zv rfl rfl rfl rfl rfl ?_; refine Zn rfl rfl rfl rfl rfl ?_; refine hc_seq ?_; refine Zw rfl rfl rfl rfl rfl ?_; refine hx_plain rfl ?_; refine h_nilCheck rfl rfl rfl rfl ?_; refine Zf rfl rfl rfl rfl rfl ?_; refine Zh rfl rfl rfl rfl rfl rfl rfl ?_; refine Zc rfl rfl rfl rfl rfl rfl rfl ?_; refine Zt ?_; refine hc_condF rfl ?_; refine hc_skip ?_; refine hq_then ?_; (iterate 2 (refine hc_seq ?_)); refine hc_draw0 (by kernel_rfl) (by kernel_rfl) ?_; refine Zm rfl rfl rfl rfl rfl ?_; refine hx_plain rfl ?_; refine h_nilCheck rfl rfl rfl rfl ?_; refine Zf rfl rfl rfl rfl rfl ?_; refine Zh rfl rfl rfl rfl rfl rfl rfl ?_; refine hx_plain rfl ?_; refine h_len_slice rfl rfl rfl UC.out rfl rfl rfl ?_; refine Zm rfl rfl rfl rfl rfl ?_; refine hx_plain rfl ?_; refine h_nilCheck rfl rfl rfl rfl ?_; refine Zf rfl rfl rfl rfl rfl ?_; refine Zh rfl rfl rfl rfl rfl rfl rfl ?_; refine hx_plain rfl ?_; refine h_arithI rfl rfl rfl rfl (by omega) rfl rfl ?_; refine Zm rfl rfl rfl rfl rfl ?_; refine Zc rfl rfl rfl rfl rfl rfl rfl ?_; refine Zt ?_; refine hc_condDF rfl (by omega) ?_; refine hc_skip ?_; refine hq_then ?_; refine Zx rfl rfl rfl rfl rfl ?_; refine hc_seq ?_; refine Zx rfl rfl rfl rfl rfl ?_; refine hc_block ?_)
  refine hc_cut (id := 0) (Y := Unit) (fun _ => [(6, .int .u64 (numR ((bs.drop at_).take n)))]) (fun _ => [RRd q bs at_ 0]) (fun _ => True) ?_ ?_
  · refine hc_loop (X := Nat × Int) (fun x => [(0, .pointer (some ⟨q, 0, none⟩)), (1, .int .i64 (n : Int)), (6, .int .u64 x.2), (7, .int .i64 (x.1 : Int))]) (fun x => [Blk q (.cells #[.slice a bs.length c, .int .i64 (at_ : Int), .int .i64 0] 169 (0, 0)), RowV byteE 5 (.slice a bs.length c) bs]) (fun x => x.1 ≤ n ∧ x.2 = numR ((bs.drop at_).take x.1)) (fun x => n - x.1) (0, 0) (.cons rfl (.cons rfl (.cons rfl (.cons rfl .nil)))) ⟨Nat.zero_le _, by simp [numR]⟩ (fun _ h => h) ?_
    rintro ⟨i, x⟩ ⟨hi, hx⟩
    dsimp only at hi hx ⊢
    by_cases hlt : i < n
    case neg =>
      obtain rfl : i = n := by omega
      subst hx
      (refine hc_seq ?_; refine Zw rfl rfl rfl rfl rfl ?_; refine Zm rfl rfl rfl rfl rfl ?_; refine Zc rfl rfl rfl rfl rfl rfl rfl ?_; refine Zt ?_; refine hc_condDF rfl (by omega) ?_; refine hc_exit ?_; (iterate 2 (refine hq_exit_then ?_)))
      exact hq_cut () trivial (.cons rfl .nil) (fun _ h => RRd_shut h)
    refine hc_rowV (.tail .head) (fun _ e => by rw [e] at h1; exact absurd (show (0 : Nat) < at_ + n by omega) h1) ?_
    intro g cap e
    injection e with e2 e3 e4
    subst e2 e4
    have hlb : at_ + i < bs.length := by omega
    have hg : bs[at_ + i]? = some bs[at_ + i] := List.getElem?_eq_getElem hlb
    have hcb := hb _ (List.getElem_mem hlb)
    obtain ⟨q1, q2, q3⟩ := numR_eq (hby i) (by rw [List.length_take]; omega)
    have q4 : (256 : Int) ^ ((bs.drop at_).take i).length ≤ 256 ^ 7 := pow256_le (by rw [List.length_take]; omega)
    have q5 : (256 : Int) ^ 7 = 72057594037927936 := by decide
    have hsn : (bs.drop at_).take (i + 1) = (bs.drop at_).take i ++ [bs[at_ + i]] := by
      rw [take_succ1 (by rw [List.length_drop]; omega), List.getElem_drop]
    have hnx : numR ((bs.drop at_).take (i + 1)) = x * 256 + bs[at_ + i] := by
      rw [(numR_eq (hby (i + 1)) (by rw [List.length_take]; omega)).1, hsn, numP_snoc, ← q1, hx]
    have hx2 : 0 ≤ x ∧ x < 72057594037927936 := by rw [hx, q1]; omega
    obtain ⟨b, hbe⟩ : ∃ b, bs[at_ + i] = b := ⟨_, rfl⟩
    rw [hbe] at hg hcb hnx
    clear hx
    have w1 : IntKind.u64.wrap (x * 256) = x * 256 := wrapU_in (by omega)
    have w2 : IntKind.u64.wrap b = b := wrapU_in (by omega)
    have w3 : IntKind.u64.wrap (x * 256 + b) = x * 256 + b := wrapU_in (by omega)
    (refine hc_seq ?_; refine Zw rfl rfl rfl rfl rfl ?_; refine Zm rfl rfl rfl rfl rfl ?_; refine Zc rfl rfl rfl rfl rfl rfl rfl ?_; refine Zt ?_; refine hc_condDT rfl (by omega) ?_; refine hc_skip ?_; refine hq_then ?_; refine hc_seq ?_; refine hc_block ?_; refine hc_draw0 (by kernel_rfl) (by kernel_rfl) ?_; refine Zm rfl rfl rfl rfl rfl ?_; refine hx_plain rfl ?_; refine h_arith rfl rfl rfl rfl rfl rfl ?_; (iterate 2 (refine Zm rfl rfl rfl rfl rfl ?_; refine hx_plain rfl ?_; refine h_nilCheck rfl rfl rfl rfl ?_; refine Zf rfl rfl rfl rfl rfl ?_; refine hx_plain rfl ?_; refine h_load rfl rfl UC.out rfl (.tail .head) rfl rfl rfl ?_)); refine Zm rfl rfl rfl rfl rfl ?_; refine hx_plain rfl ?_; refine h_arithI rfl rfl rfl rfl (by omega) rfl rfl ?_; refine hx_plain rfl ?_; refine h_rowAddr rfl rfl rfl UC.out IC.size (by omega) (by omega) rfl rfl ?_; refine hx_plain rfl ?_)
    rw [show (at_ : Int) + (i : Int) = ((at_ + i : Nat) : Int) by omega]
    refine h_rowLoad1 (i := at_ + i) (y := b) rfl .head rfl UC.out rfl hg rfl rfl rfl ?_
    (refine hx_plain rfl ?_; refine h_convInt rfl rfl UC.out UC.out rfl rfl ?_; refine hx_plain rfl ?_; refine h_arith rfl rfl rfl rfl rfl rfl ?_; refine Za rfl rfl rfl rfl rfl ?_; refine hx_nil ?_; refine hq_norm_block ?_; refine hq_then ?_; refine hc_lex ?_; refine Zm rfl rfl rfl rfl rfl ?_; refine hx_plain rfl ?_; refine h_arithI rfl rfl rfl rfl (by omega) rfl rfl ?_; refine Za rfl rfl rfl rfl rfl ?_; refine hx_nil ?_)
    refine hq_round (i + 1, IntKind.u64.wrap (IntKind.u64.wrap (x * 256) + IntKind.u64.wrap b)) (by show n - (i + 1) < n - i; omega) ⟨by show i + 1 ≤ n; omega, by show IntKind.u64.wrap (IntKind.u64.wrap (x * 256) + IntKind.u64.wrap b) = _; rw [w1, w2, w3, hnx]⟩ (.cons rfl (.cons rfl (.cons rfl (.cons rfl .nil)))) (fun _ h => ?_)
    exact (h.rowV_mk).sub (.cons (.tail .head) (.cons .head .nil))
  rintro ⟨⟩ _
  (refine hq_exit_block ?_; refine hq_then ?_; refine Zw rfl rfl rfl rfl rfl ?_; refine Za rfl rfl rfl rfl rfl ?_; refine Zn rfl rfl rfl rfl rfl ?_; refine hc_ret ?_)
  exact hq_ret2 (.inr rfl) rfl rfl rfl ⟨rfl, rfl⟩ (fun _ h => h)
def BndR (bs : List Int) (at_ : Nat) (er : Int) (n : Nat) (most : Int) : Int × Nat × Int :=
  if (NumR bs at_ er n).2.1 = true then (if most < 0 ∨ IntKind.u64.wrap most < (NumR bs at_ er n).1 then (0, at_, 12) else (IntKind.i64.wrap (NumR bs at_ er n).1, at_ + n, 0)) else (0, at_, (NumR bs at_ er n).2.2)
set_option maxHeartbeats 2000000 in
theorem rbnd_spec (q : Nat) (bs : List Int) (at_ : Nat) (er : Int) (n : Nat) (most : Int) (hn : n ≤ 8) (hb : Byts bs) (hl : bs.length ≤ 140737488355200) (hat : at_ ≤ bs.length) :
    Spec Tryz.prog 118 [.pointer (some ⟨q, 0, none⟩), .int .i64 (n : Int), .int .i64 most] [RRd q bs at_ er] (fun u M => u = .int .i64 (BndR bs at_ er n most).1 ∧ M = [RRd q bs (BndR bs at_ er n most).2.1 (BndR bs at_ er n most).2.2]) := by
  refine spec_of Tryz.func118 rfl rfl (Nat.le_of_ble_eq_true rfl) (fun w F => ?_)
  have hz : ∀ ok : Bool, (NumR bs at_ er n).2.1 = ok → (ok = true → er = 0 ∧ at_ + n ≤ bs.length ∧ (NumR bs at_ er n).2.2 = 0) := by
    intro ok h1 h2
    subst h2
    unfold NumR at h1 ⊢
    split at h1
    · cases h1
    · split at h1
      · cases h1
      · rename_i h3 h4
        rw [if_neg h3, if_neg h4]
        exact ⟨Classical.not_not.1 h3, by omega, rfl⟩
  have hs := rdnum_spec q bs at_ er n hn hb hl hat
  unfold BndR
  generalize NumR bs at_ er n = N at hs hz ⊢
  obtain ⟨v, ok, er2⟩ := N
  dsimp only at hs hz ⊢
  (refine Zx rfl rfl rfl rfl rfl ?_; refine Zw rfl rfl rfl rfl rfl ?_; refine Zm rfl rfl rfl rfl rfl ?_; refine hx_plain rfl ?_)
  refine h_call rfl rfl rfl rfl rfl rfl rfl rfl EC.out (.cons .head .nil) hs ?_
  rintro u M ⟨rfl, rfl⟩
  cases ok with
  | false =>
    rw [if_neg (by simp)]
    (refine Zm rfl rfl rfl rfl rfl ?_; (iterate 2 (refine hx_plain rfl ?_; refine h_extract rfl rfl rfl rfl rfl ?_)); refine Za rfl rfl rfl rfl rfl ?_; refine Zn rfl rfl rfl rfl rfl ?_; refine hc_seq ?_; refine Zw rfl rfl rfl rfl rfl ?_; refine hx_plain rfl ?_; refine h_not rfl rfl rfl rfl ?_; refine Zt ?_; refine hc_condT rfl ?_; refine Zx rfl rfl rfl rfl rfl ?_; refine hc_ret ?_; refine hq_ret_then ?_)
    exact hq_ret1 (.inr rfl) rfl rfl ⟨rfl, rfl⟩ (fun _ h => h)
  | true =>
    obtain ⟨rfl, hle, rfl⟩ := hz true rfl rfl
    rw [if_pos rfl]
    (refine Zm rfl rfl rfl rfl rfl ?_; (iterate 2 (refine hx_plain rfl ?_; refine h_extract rfl rfl rfl rfl rfl ?_)); refine Za rfl rfl rfl rfl rfl ?_; refine Zn rfl rfl rfl rfl rfl ?_)
    refine hc_open .head RRd_open ?_
    rintro ⟨a, c⟩
    dsimp only
    by_cases h0 : most < 0
    · rw [if_pos (.inl h0)]
      (refine hc_seq ?_; refine Zw rfl rfl rfl rfl rfl ?_; refine hx_plain rfl ?_; refine h_not rfl rfl rfl rfl ?_; refine Zt ?_; refine hc_condF rfl ?_; refine hc_skip ?_; refine hq_then ?_; refine hc_seq ?_; refine Zw rfl rfl rfl rfl rfl ?_; refine Zc rfl rfl rfl rfl rfl rfl rfl ?_; refine Zm rfl rfl rfl rfl rfl ?_; refine hx_gT rfl rfl rfl (by omega) ?_; (iterate 4 (refine hx_skip rfl rfl rfl rfl rfl rfl ?_)); refine Zq rfl rfl rfl rfl rfl rfl ?_; refine Zt ?_; refine hc_condT rfl ?_; refine Zw rfl rfl rfl rfl rfl ?_; refine hx_plain rfl ?_; refine h_nilCheck rfl rfl rfl rfl ?_; refine Zf rfl rfl rfl rfl rfl ?_; refine hx_plain rfl ?_; refine h_store1 rfl rfl rfl rfl rfl rfl IC.size .head rfl rfl rfl ?_; refine Zt ?_; refine Zx rfl rfl rfl rfl rfl ?_; refine hc_ret ?_; refine hq_ret_then ?_)
      exact hq_ret1 (.inr rfl) rfl rfl ⟨rfl, rfl⟩ (fun _ h => RRd_shut h)
    by_cases h2 : IntKind.u64.wrap most < v
    · rw [if_pos (.inr h2)]
      (refine hc_seq ?_; refine Zw rfl rfl rfl rfl rfl ?_; refine hx_plain rfl ?_; refine h_not rfl rfl rfl rfl ?_; refine Zt ?_; refine hc_condF rfl ?_; refine hc_skip ?_; refine hq_then ?_; refine hc_seq ?_; refine Zw rfl rfl rfl rfl rfl ?_; refine Zc rfl rfl rfl rfl rfl rfl rfl ?_; refine Zm rfl rfl rfl rfl rfl ?_; refine hx_gF rfl rfl rfl (by omega) ?_; (iterate 2 (refine hx_yes rfl rfl rfl ?_; refine h_move rfl rfl rfl rfl ?_)); refine hx_yes rfl rfl rfl ?_; refine h_convInt rfl rfl UC.out UC.out rfl rfl ?_; refine hx_yes rfl rfl rfl ?_; refine h_cmp rfl rfl rfl rfl rfl rfl ?_; refine Zp rfl rfl rfl rfl rfl rfl ?_; refine Zt ?_; refine hc_condDT rfl (by omega) ?_; refine Zw rfl rfl rfl rfl rfl ?_; refine hx_plain rfl ?_; refine h_nilCheck rfl rfl rfl rfl ?_; refine Zf rfl rfl rfl rfl rfl ?_; refine hx_plain rfl ?_; refine h_store1 rfl rfl rfl rfl rfl rfl IC.size .head rfl rfl rfl ?_; refine Zt ?_; refine Zx rfl rfl rfl rfl rfl ?_; refine hc_ret ?_; refine hq_ret_then ?_)
      exact hq_ret1 (.inr rfl) rfl rfl ⟨rfl, rfl⟩ (fun _ h => RRd_shut h)
    rw [if_neg (fun h => h.elim h0 h2)]
    (refine hc_seq ?_; refine Zw rfl rfl rfl rfl rfl ?_; refine hx_plain rfl ?_; refine h_not rfl rfl rfl rfl ?_; refine Zt ?_; refine hc_condF rfl ?_; refine hc_skip ?_; refine hq_then ?_; refine hc_seq ?_; refine Zw rfl rfl rfl rfl rfl ?_; refine Zc rfl rfl rfl rfl rfl rfl rfl ?_; refine Zm rfl rfl rfl rfl rfl ?_; refine hx_gF rfl rfl rfl (by omega) ?_; (iterate 2 (refine hx_yes rfl rfl rfl ?_; refine h_move rfl rfl rfl rfl ?_)); refine hx_yes rfl rfl rfl ?_; refine h_convInt rfl rfl UC.out UC.out rfl rfl ?_; refine hx_yes rfl rfl rfl ?_; refine h_cmp rfl rfl rfl rfl rfl rfl ?_; refine Zp rfl rfl rfl rfl rfl rfl ?_; refine Zt ?_; refine hc_condDF rfl (by omega) ?_; refine hc_skip ?_; refine hq_then ?_; refine Zw rfl rfl rfl rfl rfl ?_; refine Zm rfl rfl rfl rfl rfl ?_; refine hx_plain rfl ?_; refine h_nilCheck rfl rfl rfl rfl ?_; refine Zf rfl rfl rfl rfl rfl ?_; refine Zh rfl rfl rfl rfl rfl rfl rfl ?_; refine Zm rfl rfl rfl rfl rfl ?_; refine hx_plain rfl ?_; refine h_arithI rfl rfl rfl rfl (by omega) rfl rfl ?_; refine hx_plain rfl ?_; refine h_nilCheck rfl rfl rfl rfl ?_; refine Zf rfl rfl rfl rfl rfl ?_; refine hx_plain rfl ?_; refine h_store1 rfl rfl rfl rfl rfl rfl IC.size .head rfl rfl rfl ?_; refine Zt ?_; refine Zw rfl rfl rfl rfl rfl ?_; refine hx_plain rfl ?_; refine h_convInt rfl rfl UC.out UC.out rfl rfl ?_; refine Zn rfl rfl rfl rfl rfl ?_; refine hc_ret ?_)
    rw [show (at_ : Int) + (n : Int) = ((at_ + n : Nat) : Int) by omega]
    exact hq_ret1 (.inr rfl) rfl rfl ⟨rfl, rfl⟩ (fun _ h => RRd_shut h)
end Go.Proofs.YtfolhmlldoepfaaGreatDoor
namespace Go.Proofs.YtfolhmlldoepfaaGreatDoor
open Go Go.Proofs Go.RowKit
set_option maxRecDepth 4000
theorem bnd_u32 {bs : List Int} (hb : Byts bs) (at_ : Nat) (er most : Int) (hm : -9223372036854775808 ≤ most ∧ most ≤ 9223372036854775807) : BndR bs at_ er 4 most = U32R bs at_ er most := by
  obtain ⟨n1, n2, n3⟩ := N4_eq hb at_
  unfold BndR NumR U32R
  by_cases her : er ≠ 0
  · rw [if_pos her, if_neg (by simp), if_pos her]
  rw [if_neg her, if_neg her]
  by_cases h1 : bs.length < at_ + 4
  · rw [if_pos h1, if_neg (by simp), if_pos h1]
  rw [if_neg h1, if_pos rfl, if_neg h1]
  dsimp only
  rw [← n1, wrapI_in (by omega)]
  by_cases h2 : N4 bs at_ ≤ most
  · rw [wrapU_in (by omega), if_neg (by omega), if_pos h2]
  · rw [if_neg h2, if_pos]
    by_cases h3 : most < 0
    · exact .inl h3
    · right; rw [wrapU_in (by omega)]; omega
theorem bnd_u64 {bs : List Int} (at_ : Nat) (er most : Int) : BndR bs at_ er 8 most = U64R bs at_ er most := by
  unfold BndR NumR U64R
  by_cases her : er ≠ 0
  · rw [if_pos her, if_neg (by simp), if_pos her]
  rw [if_neg her, if_neg her]
  by_cases h1 : bs.length < at_ + 8
  · rw [if_pos h1, if_neg (by simp), if_pos h1]
  rw [if_neg h1, if_pos rfl, if_neg h1]
  dsimp only
  rw [show numR ((bs.drop at_).take 8) = N8 bs at_ from rfl]
  by_cases h2 : 0 ≤ most ∧ N8 bs at_ ≤ IntKind.u64.wrap most
  · rw [if_neg (by omega), if_pos h2]
  · rw [if_neg h2, if_pos (by omega)]
section
variable (q : Nat) (bs : List Int) (at_ : Nat) (er : Int) (hb : Byts bs) (hl : bs.length ≤ 140737488355200) (hat : at_ ≤ bs.length)
include hb hl hat
theorem ru32_spec (most : Int) (hm : -9223372036854775808 ≤ most ∧ most ≤ 9223372036854775807) : Spec Tryz.prog 76 [.pointer (some ⟨q, 0, none⟩), .int .i64 most] [RRd q bs at_ er] (fun u M => u = .int .i64 (U32R bs at_ er most).1 ∧ M = [RRd q bs (U32R bs at_ er most).2.1 (U32R bs at_ er most).2.2]) := by
  refine spec_of Tryz.func76 rfl rfl (Nat.le_of_ble_eq_true rfl) (fun w F => ?_)
  rw [← bnd_u32 hb at_ er most hm]
  (refine Zx rfl rfl rfl rfl rfl ?_; refine Zw rfl rfl rfl rfl rfl ?_; refine Zm rfl rfl rfl rfl rfl ?_; refine hx_plain rfl ?_)
  refine h_call rfl rfl rfl rfl rfl rfl rfl rfl EC.out (.cons .head .nil) (rbnd_spec q bs at_ er 4 most (by decide) hb hl hat) ?_
  rintro u M ⟨rfl, rfl⟩
  (refine Zn rfl rfl rfl rfl rfl ?_; refine hc_ret ?_)
  exact hq_ret1 (.inr rfl) rfl rfl ⟨rfl, rfl⟩ (fun _ h => h)
theorem ru64_spec (most : Int) : Spec Tryz.prog 77 [.pointer (some ⟨q, 0, none⟩), .int .i64 most] [RRd q bs at_ er] (fun u M => u = .int .i64 (U64R bs at_ er most).1 ∧ M = [RRd q bs (U64R bs at_ er most).2.1 (U64R bs at_ er most).2.2]) := by
  refine spec_of Tryz.func77 rfl rfl (Nat.le_of_ble_eq_true rfl) (fun w F => ?_)
  rw [← bnd_u64 at_ er most]
  (refine Zx rfl rfl rfl rfl rfl ?_; refine Zw rfl rfl rfl rfl rfl ?_; refine Zm rfl rfl rfl rfl rfl ?_; refine hx_plain rfl ?_)
  refine h_call rfl rfl rfl rfl rfl rfl rfl rfl EC.out (.cons .head .nil) (rbnd_spec q bs at_ er 8 most (by decide) hb hl hat) ?_
  rintro u M ⟨rfl, rfl⟩
  (refine Zn rfl rfl rfl rfl rfl ?_; refine hc_ret ?_)
  exact hq_ret1 (.inr rfl) rfl rfl ⟨rfl, rfl⟩ (fun _ h => h)
theorem rdsum_spec : Spec Tryz.prog 117 [.pointer (some ⟨q, 0, none⟩)] [RRd q bs at_ er] (fun u M => u = .int .u64 (SumR bs at_ er).1 ∧ M = [RRd q bs (SumR bs at_ er).2.1 (SumR bs at_ er).2.2]) := by
  refine spec_of Tryz.func117 rfl rfl (Nat.le_of_ble_eq_true rfl) (fun w F => ?_)
  have hs := rdnum_spec q bs at_ er 8 (by decide) hb hl hat
  (refine Zx rfl rfl rfl rfl rfl ?_; refine Zw rfl rfl rfl rfl rfl ?_; refine hx_plain rfl ?_)
  refine h_call rfl rfl rfl rfl rfl rfl rfl rfl EC.out (.cons .head .nil) hs ?_
  clear hs
  rintro u M ⟨rfl, rfl⟩
  by_cases her : er = 0
  case neg =>
    rw [show NumR bs at_ er 8 = (0, false, er) from if_pos her, show SumR bs at_ er = (0, at_, er) from if_pos her]
    (refine Zm rfl rfl rfl rfl rfl ?_; (iterate 2 (refine hx_plain rfl ?_; refine h_extract rfl rfl rfl rfl rfl ?_)); refine Za rfl rfl rfl rfl rfl ?_; refine Zn rfl rfl rfl rfl rfl ?_; refine hc_seq ?_; refine Zw rfl rfl rfl rfl rfl ?_; refine hx_plain rfl ?_; refine h_not rfl rfl rfl rfl ?_; refine Zt ?_; refine hc_condT rfl ?_; refine Zx rfl rfl rfl rfl rfl ?_; refine hc_ret ?_; refine hq_ret_then ?_)
    exact hq_ret1 (.inr rfl) rfl rfl ⟨rfl, rfl⟩ (fun _ h => h)
  subst her
  by_cases h1 : bs.length < at_ + 8
  · rw [show NumR bs at_ 0 8 = (0, false, 11) by unfold NumR; rw [if_neg (by simp), if_pos h1], show SumR bs at_ 0 = (0, at_, 11) by unfold SumR; rw [if_neg (by simp), if_pos h1]]
    (refine Zm rfl rfl rfl rfl rfl ?_; (iterate 2 (refine hx_plain rfl ?_; refine h_extract rfl rfl rfl rfl rfl ?_)); refine Za rfl rfl rfl rfl rfl ?_; refine Zn rfl rfl rfl rfl rfl ?_; refine hc_seq ?_; refine Zw rfl rfl rfl rfl rfl ?_; refine hx_plain rfl ?_; refine h_not rfl rfl rfl rfl ?_; refine Zt ?_; refine hc_condT rfl ?_; refine Zx rfl rfl rfl rfl rfl ?_; refine hc_ret ?_; refine hq_ret_then ?_)
    exact hq_ret1 (.inr rfl) rfl rfl ⟨rfl, rfl⟩ (fun _ h => h)
  rw [show NumR bs at_ 0 8 = (numR ((bs.drop at_).take 8), true, 0) by unfold NumR; rw [if_neg (by simp), if_neg h1]]
  rw [show SumR bs at_ 0 = _ by unfold SumR; rw [if_neg (by simp), if_neg h1]]
  dsimp only
  rw [show numR ((bs.drop at_).take 8) = N8 bs at_ from rfl]
  (refine Zm rfl rfl rfl rfl rfl ?_; (iterate 2 (refine hx_plain rfl ?_; refine h_extract rfl rfl rfl rfl rfl ?_)); refine Za rfl rfl rfl rfl rfl ?_; refine Zn rfl rfl rfl rfl rfl ?_)
  refine hc_open .head RRd_open ?_
  rintro ⟨a, c⟩
  dsimp only
  (refine hc_seq ?_; refine Zw rfl rfl rfl rfl rfl ?_; refine hx_plain rfl ?_; refine h_not rfl rfl rfl rfl ?_; refine Zt ?_; refine hc_condF rfl ?_; refine hc_skip ?_; refine hq_then ?_; refine Zw rfl rfl rfl rfl rfl ?_; refine Zm rfl rfl rfl rfl rfl ?_; refine hx_plain rfl ?_; refine h_nilCheck rfl rfl rfl rfl ?_; refine Zf rfl rfl rfl rfl rfl ?_; refine Zh rfl rfl rfl rfl rfl rfl rfl ?_; refine hx_plain rfl ?_; refine h_arithI rfl rfl rfl rfl (by omega) rfl rfl ?_; refine hx_plain rfl ?_; refine h_nilCheck rfl rfl rfl rfl ?_; refine Zf rfl rfl rfl rfl rfl ?_; refine hx_plain rfl ?_; refine h_store1 rfl rfl rfl rfl rfl rfl IC.size .head rfl rfl rfl ?_; refine Zt ?_; refine Zw rfl rfl rfl rfl rfl ?_; refine Zn rfl rfl rfl rfl rfl ?_; refine hc_ret ?_)
  exact hq_ret1 (.inr rfl) rfl rfl ⟨rfl, rfl⟩ (fun _ h => RRd_shut h)
theorem rflag_spec : Spec Tryz.prog 85 [.pointer (some ⟨q, 0, none⟩)] [RRd q bs at_ er] (fun u M => u = .bool (FlagR bs at_ er).1 ∧ M = [RRd q bs (FlagR bs at_ er).2.1 (FlagR bs at_ er).2.2]) := by
  refine spec_of Tryz.func85 rfl rfl (Nat.le_of_ble_eq_true rfl) (fun w F => ?_)
  have hs := rdnum_spec q bs at_ er 4 (by decide) hb hl hat
  (refine Zx rfl rfl rfl rfl rfl ?_; refine Zw rfl rfl rfl rfl rfl ?_; refine hx_plain rfl ?_)
  refine h_call rfl rfl rfl rfl rfl rfl rfl rfl EC.out (.cons .head .nil) hs ?_
  clear hs
  rintro u M ⟨rfl, rfl⟩
  by_cases her : er = 0
  case neg =>
    rw [show NumR bs at_ er 4 = (0, false, er) from if_pos her, show FlagR bs at_ er = (false, at_, er) from if_pos her]
    (refine Zm rfl rfl rfl rfl rfl ?_; (iterate 2 (refine hx_plain rfl ?_; refine h_extract rfl rfl rfl rfl rfl ?_)); refine Za rfl rfl rfl rfl rfl ?_; refine Zn rfl rfl rfl rfl rfl ?_; refine hc_seq ?_; refine Zw rfl rfl rfl rfl rfl ?_; refine hx_plain rfl ?_; refine h_not rfl rfl rfl rfl ?_; refine Zt ?_; refine hc_condT rfl ?_; refine Zx rfl rfl rfl rfl rfl ?_; refine hc_ret ?_; refine hq_ret_then ?_)
    exact hq_ret1 (.inr rfl) rfl rfl ⟨rfl, rfl⟩ (fun _ h => h)
  subst her
  by_cases h1 : bs.length < at_ + 4
  · rw [show NumR bs at_ 0 4 = (0, false, 11) by unfold NumR; rw [if_neg (by simp), if_pos h1], show FlagR bs at_ 0 = (false, at_, 11) by unfold FlagR; rw [if_neg (by simp), if_pos h1]]
    (refine Zm rfl rfl rfl rfl rfl ?_; (iterate 2 (refine hx_plain rfl ?_; refine h_extract rfl rfl rfl rfl rfl ?_)); refine Za rfl rfl rfl rfl rfl ?_; refine Zn rfl rfl rfl rfl rfl ?_; refine hc_seq ?_; refine Zw rfl rfl rfl rfl rfl ?_; refine hx_plain rfl ?_; refine h_not rfl rfl rfl rfl ?_; refine Zt ?_; refine hc_condT rfl ?_; refine Zx rfl rfl rfl rfl rfl ?_; refine hc_ret ?_; refine hq_ret_then ?_)
    exact hq_ret1 (.inr rfl) rfl rfl ⟨rfl, rfl⟩ (fun _ h => h)
  rw [show NumR bs at_ 0 4 = (numR ((bs.drop at_).take 4), true, 0) by unfold NumR; rw [if_neg (by simp), if_neg h1]]
  rw [show FlagR bs at_ 0 = _ by unfold FlagR; rw [if_neg (by simp), if_neg h1]]
  dsimp only
  generalize numR ((bs.drop at_).take 4) = x
  (refine Zm rfl rfl rfl rfl rfl ?_; (iterate 2 (refine hx_plain rfl ?_; refine h_extract rfl rfl rfl rfl rfl ?_)); refine Za rfl rfl rfl rfl rfl ?_; refine Zn rfl rfl rfl rfl rfl ?_)
  refine hc_open .head RRd_open ?_
  rintro ⟨a, c⟩
  dsimp only
  by_cases h2 : x ≤ 1
  · rw [if_pos h2]
    (refine hc_seq ?_; refine Zw rfl rfl rfl rfl rfl ?_; refine hx_plain rfl ?_; refine h_not rfl rfl rfl rfl ?_; refine Zt ?_; refine hc_condF rfl ?_; refine hc_skip ?_; refine hq_then ?_; refine hc_seq ?_; refine Zw rfl rfl rfl rfl rfl ?_; refine Zc rfl rfl rfl rfl rfl rfl rfl ?_; refine Zt ?_; refine hc_condDF rfl (by omega) ?_; refine hc_skip ?_; refine hq_then ?_; refine Zw rfl rfl rfl rfl rfl ?_; refine Zm rfl rfl rfl rfl rfl ?_; refine hx_plain rfl ?_; refine h_nilCheck rfl rfl rfl rfl ?_; refine Zf rfl rfl rfl rfl rfl ?_; refine Zh rfl rfl rfl rfl rfl rfl rfl ?_; refine hx_plain rfl ?_; refine h_arithI rfl rfl rfl rfl (by omega) rfl rfl ?_; refine hx_plain rfl ?_; refine h_nilCheck rfl rfl rfl rfl ?_; refine Zf rfl rfl rfl rfl rfl ?_; refine hx_plain rfl ?_; refine h_store1 rfl rfl rfl rfl rfl rfl IC.size .head rfl rfl rfl ?_; refine Zt ?_; refine Zw rfl rfl rfl rfl rfl ?_; refine Zc rfl rfl rfl rfl rfl rfl rfl ?_; refine Zn rfl rfl rfl rfl rfl ?_; refine hc_ret ?_)
    exact hq_ret1 (.inr rfl) rfl rfl ⟨rfl, rfl⟩ (fun _ h => RRd_shut h)
  · rw [if_neg h2]
    (refine hc_seq ?_; refine Zw rfl rfl rfl rfl rfl ?_; refine hx_plain rfl ?_; refine h_not rfl rfl rfl rfl ?_; refine Zt ?_; refine hc_condF rfl ?_; refine hc_skip ?_; refine hq_then ?_; refine hc_seq ?_; refine Zw rfl rfl rfl rfl rfl ?_; refine Zc rfl rfl rfl rfl rfl rfl rfl ?_; refine Zt ?_; refine hc_condDT rfl (by omega) ?_; refine Zw rfl rfl rfl rfl rfl ?_; refine hx_plain rfl ?_; refine h_nilCheck rfl rfl rfl rfl ?_; refine Zf rfl rfl rfl rfl rfl ?_; refine hx_plain rfl ?_; refine h_store1 rfl rfl rfl rfl rfl rfl IC.size .head rfl rfl rfl ?_; refine Zt ?_; refine Zx rfl rfl rfl rfl rfl ?_; refine hc_ret ?_; refine hq_ret_then ?_)
    exact hq_ret1 (.inr rfl) rfl rfl ⟨rfl, rfl⟩ (fun _ h => RRd_shut h)
omit hb hl hat in
theorem rerr_spec : Spec Tryz.prog 78 [.pointer (some ⟨q, 0, none⟩)] [RRd q bs at_ er] (fun u M => u = .tuple #[.int .i64 er, .int .i64 (at_ : Int)] ∧ M = [RRd q bs at_ er]) := by
  refine spec_of Tryz.func78 rfl rfl (Nat.le_of_ble_eq_true rfl) (fun w F => ?_)
  refine hc_open .head RRd_open ?_
  rintro ⟨a, c⟩
  dsimp only
  refine hc_seq ?_
  refine hc_lex ?_
  (refine Za rfl rfl rfl rfl rfl ?_; refine Zn rfl rfl rfl rfl rfl ?_)
  refine hc_seq ?_
  refine hc_drawO [0, 1, 2, 3, 8, 4, 5, 6, 7, 9] (fun _ => false) (by kernel_rfl) (by kernel_rfl) rfl ?_
  (refine Zm rfl rfl rfl rfl rfl ?_; refine hx_plain rfl ?_; refine h_nilCheck rfl rfl rfl rfl ?_; refine Zf rfl rfl rfl rfl rfl ?_; refine Zh rfl rfl rfl rfl rfl rfl rfl ?_; refine Za rfl rfl rfl rfl rfl ?_; refine Zm rfl rfl rfl rfl rfl ?_; refine hx_plain rfl ?_; refine h_nilCheck rfl rfl rfl rfl ?_; refine Zf rfl rfl rfl rfl rfl ?_; refine Zh rfl rfl rfl rfl rfl rfl rfl ?_; refine Zn rfl rfl rfl rfl rfl ?_; refine hc_ret ?_)
  exact hq_ret2 (.inr rfl) rfl rfl rfl ⟨rfl, rfl⟩ (fun _ h => RRd_shut h)
omit hb hl hat in
theorem rclose_spec : Spec Tryz.prog 83 [.pointer (some ⟨q, 0, none⟩)] [RRd q bs at_ er] (fun u M => u = .int .i64 (CloseR bs at_ er) ∧ M = [RRd q bs at_ (CloseR bs at_ er)]) := by
  refine spec_of Tryz.func83 rfl rfl (Nat.le_of_ble_eq_true rfl) (fun w F => ?_)
  refine hc_open .head RRd_open ?_
  rintro ⟨a, c⟩
  dsimp only
  unfold CloseR
  by_cases her : er = 0
  case neg =>
    rw [if_neg (fun h => her h.1)]
    (refine Zx rfl rfl rfl rfl rfl ?_; (iterate 2 (refine hc_seq ?_)); refine hc_draw0 (by kernel_rfl) (by kernel_rfl) ?_; refine Zm rfl rfl rfl rfl rfl ?_; refine hx_plain rfl ?_; refine h_nilCheck rfl rfl rfl rfl ?_; refine Zf rfl rfl rfl rfl rfl ?_; refine Zh rfl rfl rfl rfl rfl rfl rfl ?_; refine Zc rfl rfl rfl rfl rfl rfl rfl ?_; refine Zm rfl rfl rfl rfl rfl ?_; refine hx_gF rfl rfl rfl (by omega) ?_; (iterate 10 (refine hx_skip rfl rfl rfl rfl rfl rfl ?_)); refine Zp rfl rfl rfl rfl rfl rfl ?_; refine Zt ?_; refine hc_condF rfl ?_; refine hc_skip ?_; refine hq_then ?_; refine Zw rfl rfl rfl rfl rfl ?_; refine hx_plain rfl ?_; refine h_nilCheck rfl rfl rfl rfl ?_; refine Zf rfl rfl rfl rfl rfl ?_; refine Zh rfl rfl rfl rfl rfl rfl rfl ?_; refine Zn rfl rfl rfl rfl rfl ?_; refine hc_ret ?_)
    exact hq_ret1 (.inr rfl) rfl rfl ⟨rfl, rfl⟩ (fun _ h => RRd_shut h)
  subst her
  by_cases h1 : at_ < bs.length
  · rw [if_pos ⟨rfl, h1⟩]
    (refine Zx rfl rfl rfl rfl rfl ?_; (iterate 2 (refine hc_seq ?_)); refine hc_draw0 (by kernel_rfl) (by kernel_rfl) ?_; refine Zm rfl rfl rfl rfl rfl ?_; refine hx_plain rfl ?_; refine h_nilCheck rfl rfl rfl rfl ?_; refine Zf rfl rfl rfl rfl rfl ?_; refine Zh rfl rfl rfl rfl rfl rfl rfl ?_; refine Zc rfl rfl rfl rfl rfl rfl rfl ?_; refine Zm rfl rfl rfl rfl rfl ?_; (iterate 2 (refine hx_yes rfl rfl rfl ?_; refine h_move rfl rfl rfl rfl ?_; refine hx_yes rfl rfl rfl ?_; refine h_nilCheck rfl rfl rfl rfl ?_; refine hx_yes rfl rfl rfl ?_; refine h_fieldAddr0 rfl rfl FC.out rfl rfl ?_; refine hx_yes rfl rfl rfl ?_; refine h_load rfl rfl UC.out rfl .head rfl rfl rfl ?_)); refine hx_yes rfl rfl rfl ?_; refine h_len_slice rfl rfl rfl UC.out rfl rfl rfl ?_; refine hx_yes rfl rfl rfl ?_; refine h_cmp rfl rfl rfl rfl rfl rfl ?_; refine Zq rfl rfl rfl rfl rfl rfl ?_; refine Zt ?_; refine hc_condDT rfl (by omega) ?_; refine hc_lex ?_; refine Zm rfl rfl rfl rfl rfl ?_; refine hx_plain rfl ?_; refine h_nilCheck rfl rfl rfl rfl ?_; refine Zf rfl rfl rfl rfl rfl ?_; refine hx_plain rfl ?_; refine h_store1 rfl rfl rfl rfl rfl rfl IC.size .head rfl rfl rfl ?_; refine Zt ?_; refine Zw rfl rfl rfl rfl rfl ?_; refine hx_plain rfl ?_; refine h_nilCheck rfl rfl rfl rfl ?_; refine Zf rfl rfl rfl rfl rfl ?_; refine Zh rfl rfl rfl rfl rfl rfl rfl ?_; refine Zn rfl rfl rfl rfl rfl ?_; refine hc_ret ?_)
    exact hq_ret1 (.inr rfl) rfl rfl ⟨rfl, rfl⟩ (fun _ h => RRd_shut h)
  · rw [if_neg (fun h => h1 h.2)]
    (refine Zx rfl rfl rfl rfl rfl ?_; (iterate 2 (refine hc_seq ?_)); refine hc_draw0 (by kernel_rfl) (by kernel_rfl) ?_; refine Zm rfl rfl rfl rfl rfl ?_; refine hx_plain rfl ?_; refine h_nilCheck rfl rfl rfl rfl ?_; refine Zf rfl rfl rfl rfl rfl ?_; refine Zh rfl rfl rfl rfl rfl rfl rfl ?_; refine Zc rfl rfl rfl rfl rfl rfl rfl ?_; refine Zm rfl rfl rfl rfl rfl ?_; (iterate 2 (refine hx_yes rfl rfl rfl ?_; refine h_move rfl rfl rfl rfl ?_; refine hx_yes rfl rfl rfl ?_; refine h_nilCheck rfl rfl rfl rfl ?_; refine hx_yes rfl rfl rfl ?_; refine h_fieldAddr0 rfl rfl FC.out rfl rfl ?_; refine hx_yes rfl rfl rfl ?_; refine h_load rfl rfl UC.out rfl .head rfl rfl rfl ?_)); refine hx_yes rfl rfl rfl ?_; refine h_len_slice rfl rfl rfl UC.out rfl rfl rfl ?_; refine hx_yes rfl rfl rfl ?_; refine h_cmp rfl rfl rfl rfl rfl rfl ?_; refine Zq rfl rfl rfl rfl rfl rfl ?_; refine Zt ?_; refine hc_condDF rfl (by omega) ?_; refine hc_skip ?_; refine hq_then ?_; refine Zw rfl rfl rfl rfl rfl ?_; refine hx_plain rfl ?_; refine h_nilCheck rfl rfl rfl rfl ?_; refine Zf rfl rfl rfl rfl rfl ?_; refine Zh rfl rfl rfl rfl rfl rfl rfl ?_; refine Zn rfl rfl rfl rfl rfl ?_; refine hc_ret ?_)
    exact hq_ret1 (.inr rfl) rfl rfl ⟨rfl, rfl⟩ (fun _ h => RRd_shut h)
end
end Go.Proofs.YtfolhmlldoepfaaGreatDoor
namespace Go.Proofs.YtfolhmlldoepfaaGreatDoor
open Go Go.Proofs Go.RowKit
set_option maxRecDepth 4000
theorem RRd_row {q g c : Nat} {bs : List Int} {at_ : Nat} {er : Int} {w w0 : World} {F0 : Nat → Prop} {R : List Asn} (h : St w0 F0 (Blk q (.cells #[.slice (some ⟨g, 0, none⟩) bs.length c, .int .i64 (at_ : Int), .int .i64 er] 169 (0, 0)) :: Row byteE 5 g c bs :: R) w) : St w0 F0 (RRd q bs at_ er :: R) w :=
  RRd_shut ((h.perm (List.Perm.swap _ _ _)).rowV_mk.perm (List.Perm.swap _ _ _))
section
variable (q : Nat) (bs : List Int) (at_ : Nat) (er : Int) (hb : Byts bs) (hl : bs.length ≤ 140737488355200) (hat : at_ ≤ bs.length) (most : Int) (hm : -9223372036854775808 ≤ most ∧ most ≤ 9223372036854775807)
include hb hl hat hm
set_option maxHeartbeats 4000000 in
theorem rbytes_spec : Spec Tryz.prog 82 [.pointer (some ⟨q, 0, none⟩), .int .i64 most] [RRd q bs at_ er] (fun u M => M = [RowV byteE 5 u (BodyR bs at_ er most).1, RRd q bs (BodyR bs at_ er most).2.1 (BodyR bs at_ er most).2.2]) := by
  refine spec_of Tryz.func82 rfl rfl (Nat.le_of_ble_eq_true rfl) (fun w F => ?_)
  have hs := rdnum_spec q bs at_ er 4 (by decide) hb hl hat
  (refine Zx rfl rfl rfl rfl rfl ?_; refine Zw rfl rfl rfl rfl rfl ?_; refine hx_plain rfl ?_)
  refine h_call rfl rfl rfl rfl rfl rfl rfl rfl EC.out (.cons .head .nil) hs ?_
  clear hs
  rintro u M ⟨rfl, rfl⟩
  by_cases her : er = 0
  case neg =>
    rw [show NumR bs at_ er 4 = (0, false, er) from if_pos her, show BodyR bs at_ er most = ([], at_, er) from if_pos her]
    (refine Zm rfl rfl rfl rfl rfl ?_; (iterate 2 (refine hx_plain rfl ?_; refine h_extract rfl rfl rfl rfl rfl ?_)); refine Za rfl rfl rfl rfl rfl ?_; refine Zn rfl rfl rfl rfl rfl ?_; refine hc_seq ?_; refine Zw rfl rfl rfl rfl rfl ?_; refine hx_plain rfl ?_; refine h_not rfl rfl rfl rfl ?_; refine Zt ?_; refine hc_condT rfl ?_; refine Zx rfl rfl rfl rfl rfl ?_; refine hc_ret ?_; refine hq_ret_then ?_)
    exact hq_ret1 (.inr rfl) rfl rfl rfl (fun _ h => St.rowV_nil h)
  subst her
  by_cases h1 : bs.length < at_ + 4
  · rw [show NumR bs at_ 0 4 = (0, false, 11) by unfold NumR; rw [if_neg (by simp), if_pos h1]]
    have hE : bodyE bs at_ most = 11 := if_pos h1
    rw [show BodyR bs at_ 0 most = ([], at_, 11) by unfold BodyR; rw [if_neg (by simp), hE, if_neg (by decide)]]
    (refine Zm rfl rfl rfl rfl rfl ?_; (iterate 2 (refine hx_plain rfl ?_; refine h_extract rfl rfl rfl rfl rfl ?_)); refine Za rfl rfl rfl rfl rfl ?_; refine Zn rfl rfl rfl rfl rfl ?_; refine hc_seq ?_; refine Zw rfl rfl rfl rfl rfl ?_; refine hx_plain rfl ?_; refine h_not rfl rfl rfl rfl ?_; refine Zt ?_; refine hc_condT rfl ?_; refine Zx rfl rfl rfl rfl rfl ?_; refine hc_ret ?_; refine hq_ret_then ?_)
    exact hq_ret1 (.inr rfl) rfl rfl rfl (fun _ h => St.rowV_nil h)
  rw [show NumR bs at_ 0 4 = (numR ((bs.drop at_).take 4), true, 0) by unfold NumR; rw [if_neg (by simp), if_neg h1]]
  have eN := N4_nat hb at_
  obtain ⟨n1, n2, n3⟩ := N4_eq hb at_
  have hNB := NB_lt hb at_
  have hxN : N4 bs at_ = ((NB bs at_ : Nat) : Int) := eN
  have hpad := padN_lt (NB bs at_)
  rw [← n1, hxN]
  dsimp only
  have wNB : IntKind.i64.wrap ((NB bs at_ : Nat) : Int) = ((NB bs at_ : Nat) : Int) := wrapI_in (by omega)
  (refine Zm rfl rfl rfl rfl rfl ?_; (iterate 2 (refine hx_plain rfl ?_; refine h_extract rfl rfl rfl rfl rfl ?_)); refine Za rfl rfl rfl rfl rfl ?_; refine Zn rfl rfl rfl rfl rfl ?_)
  refine hc_open .head RRd_open ?_
  rintro ⟨a, c⟩
  dsimp only
  refine hc_rowV (.tail .head) (fun _ e => by rw [e] at h1; exact absurd (show (0 : Nat) < at_ + 4 by omega) h1) ?_
  intro g cap e
  injection e with e2 e3 e4
  subst e2 e4
  refine hc_know (fun _ h => h.row_cap .head) (fun hcap => ?_)
  by_cases h2 : N4 bs at_ ≤ most
  case neg =>
    have hE : bodyE bs at_ most = 14 := by unfold bodyE; rw [if_neg h1, if_pos h2]
    rw [show BodyR bs at_ 0 most = ([], at_, 14) by unfold BodyR; rw [if_neg (by simp), hE, if_neg (by decide)]]
    by_cases h0 : most < 0
    · (refine hc_seq ?_; refine Zw rfl rfl rfl rfl rfl ?_; refine hx_plain rfl ?_; refine h_not rfl rfl rfl rfl ?_; refine Zt ?_; refine hc_condF rfl ?_; refine hc_skip ?_; refine hq_then ?_; refine hc_seq ?_; refine Zw rfl rfl rfl rfl rfl ?_; refine Zc rfl rfl rfl rfl rfl rfl rfl ?_; refine Zm rfl rfl rfl rfl rfl ?_; refine hx_gT rfl rfl rfl (by omega) ?_; (iterate 4 (refine hx_skip rfl rfl rfl rfl rfl rfl ?_)); refine Zq rfl rfl rfl rfl rfl rfl ?_; refine Zt ?_; refine hc_condT rfl ?_; refine Zw rfl rfl rfl rfl rfl ?_; refine hx_plain rfl ?_; refine h_nilCheck rfl rfl rfl rfl ?_; refine Zf rfl rfl rfl rfl rfl ?_; refine hx_plain rfl ?_; refine h_store1 rfl rfl rfl rfl rfl rfl IC.size (.tail .head) rfl rfl rfl ?_; refine Zt ?_; refine Zx rfl rfl rfl rfl rfl ?_; refine hc_ret ?_; refine hq_ret_then ?_)
      exact hq_ret1 (.inr rfl) rfl rfl rfl (fun _ h => St.rowV_nil (RRd_row h))
    · have hw : IntKind.u64.wrap most = most := wrapU_in (by omega)
      have h3 : IntKind.u64.wrap most < ((NB bs at_ : Nat) : Int) := by omega
      (refine hc_seq ?_; refine Zw rfl rfl rfl rfl rfl ?_; refine hx_plain rfl ?_; refine h_not rfl rfl rfl rfl ?_; refine Zt ?_; refine hc_condF rfl ?_; refine hc_skip ?_; refine hq_then ?_; refine hc_seq ?_; refine Zw rfl rfl rfl rfl rfl ?_; refine Zc rfl rfl rfl rfl rfl rfl rfl ?_; refine Zm rfl rfl rfl rfl rfl ?_; refine hx_gF rfl rfl rfl (by omega) ?_; (iterate 2 (refine hx_yes rfl rfl rfl ?_; refine h_move rfl rfl rfl rfl ?_)); refine hx_yes rfl rfl rfl ?_; refine h_convInt rfl rfl UC.out UC.out rfl rfl ?_; refine hx_yes rfl rfl rfl ?_; refine h_cmp rfl rfl rfl rfl rfl rfl ?_; refine Zp rfl rfl rfl rfl rfl rfl ?_; refine Zt ?_; refine hc_condDT rfl (by omega) ?_; refine Zw rfl rfl rfl rfl rfl ?_; refine hx_plain rfl ?_; refine h_nilCheck rfl rfl rfl rfl ?_; refine Zf rfl rfl rfl rfl rfl ?_; refine hx_plain rfl ?_; refine h_store1 rfl rfl rfl rfl rfl rfl IC.size (.tail .head) rfl rfl rfl ?_; refine Zt ?_; refine Zx rfl rfl rfl rfl rfl ?_; refine hc_ret ?_; refine hq_ret_then ?_)
      exact hq_ret1 (.inr rfl) rfl rfl rfl (fun _ h => St.rowV_nil (RRd_row h))
  have h0 : ¬ most < 0 := by omega
  have hw : IntKind.u64.wrap most = most := wrapU_in (by omega)
  have h3 : ¬ IntKind.u64.wrap most < ((NB bs at_ : Nat) : Int) := by omega
  have hpn2 : ((padN (NB bs at_) : Nat) : Int) = (4 - ((NB bs at_ : Nat) : Int) % 4) % 4 := by
    have := Nat.mod_lt (NB bs at_) (show 0 < 4 by decide)
    unfold padN
    omega
  by_cases h4 : bs.length < at_ + 4 + NB bs at_ + padN (NB bs at_)
  · have hE : bodyE bs at_ most = 11 := by
      unfold bodyE
      rw [if_neg h1, if_neg (fun h => h h2)]
      by_cases h5 : bs.length < at_ + 4 + NB bs at_
      · rw [if_pos h5]
      · rw [if_neg h5, if_pos h4]
    rw [show BodyR bs at_ 0 most = ([], at_, 11) by unfold BodyR; rw [if_neg (by simp), hE, if_neg (by decide)]]
    (refine hc_seq ?_; refine Zw rfl rfl rfl rfl rfl ?_; refine hx_plain rfl ?_; refine h_not rfl rfl rfl rfl ?_; refine Zt ?_; refine hc_condF rfl ?_; refine hc_skip ?_; refine hq_then ?_; refine hc_seq ?_; refine Zw rfl rfl rfl rfl rfl ?_; refine Zc rfl rfl rfl rfl rfl rfl rfl ?_; refine Zm rfl rfl rfl rfl rfl ?_; refine hx_gF rfl rfl rfl (by omega) ?_; (iterate 2 (refine hx_yes rfl rfl rfl ?_; refine h_move rfl rfl rfl rfl ?_)); refine hx_yes rfl rfl rfl ?_; refine h_convInt rfl rfl UC.out UC.out rfl rfl ?_; refine hx_yes rfl rfl rfl ?_; refine h_cmp rfl rfl rfl rfl rfl rfl ?_; refine Zp rfl rfl rfl rfl rfl rfl ?_; refine Zt ?_; refine hc_condDF rfl (by omega) ?_; refine hc_skip ?_; refine hq_then ?_; refine Zw rfl rfl rfl rfl rfl ?_; refine hx_plain rfl ?_; refine h_convInt rfl rfl UC.out UC.out rfl rfl ?_; refine Zn rfl rfl rfl rfl rfl ?_; refine Zw rfl rfl rfl rfl rfl ?_; refine hx_plain rfl ?_; refine h_remI rfl rfl rfl (by omega) rfl rfl ?_; refine hx_plain rfl ?_; refine h_arithI rfl rfl rfl rfl (by omega) rfl rfl ?_; refine hx_plain rfl ?_; refine h_remI rfl rfl rfl (by omega) rfl rfl ?_; refine Zn rfl rfl rfl rfl rfl ?_; (iterate 2 (refine hc_seq ?_)); refine hc_draw0 (by kernel_rfl) (by kernel_rfl) ?_; refine Zm rfl rfl rfl rfl rfl ?_; refine hx_plain rfl ?_; refine h_nilCheck rfl rfl rfl rfl ?_; refine Zf rfl rfl rfl rfl rfl ?_; refine hx_plain rfl ?_; refine h_load rfl rfl UC.out rfl (.tail .head) rfl rfl rfl ?_; refine hx_plain rfl ?_; refine h_len_slice rfl rfl rfl UC.out rfl rfl rfl ?_; refine Zm rfl rfl rfl rfl rfl ?_; refine hx_plain rfl ?_; refine h_nilCheck rfl rfl rfl rfl ?_; refine Zf rfl rfl rfl rfl rfl ?_; refine hx_plain rfl ?_; refine h_load rfl rfl UC.out rfl (.tail .head) rfl rfl rfl ?_; (iterate 2 (refine hx_plain rfl ?_; refine h_arithI rfl rfl rfl rfl (by omega) rfl rfl ?_; refine Zm rfl rfl rfl rfl rfl ?_)); refine hx_plain rfl ?_; refine h_arithI rfl rfl rfl rfl (by omega) rfl rfl ?_; refine Zc rfl rfl rfl rfl rfl rfl rfl ?_; refine Zt ?_; refine hc_condDT rfl (by omega) ?_; refine Zw rfl rfl rfl rfl rfl ?_; refine hx_plain rfl ?_; refine h_nilCheck rfl rfl rfl rfl ?_; refine Zf rfl rfl rfl rfl rfl ?_; refine hx_plain rfl ?_; refine h_store1 rfl rfl rfl rfl rfl rfl IC.size (.tail .head) rfl rfl rfl ?_; refine Zt ?_; refine Zx rfl rfl rfl rfl rfl ?_; refine hc_ret ?_; refine hq_ret_then ?_)
    exact hq_ret1 (.inr rfl) rfl rfl rfl (fun _ h => St.rowV_nil (RRd_row h))
  have hB : ∀ w' L F0 w0 L' (i n : Nat), i + n ≤ bs.length → St w0 F0 L w' → Pull L (Row byteE 5 g c bs) L' → Rd byteE w' (subV g c i n) ((bs.drop i).take n) := fun w' L F0 w0 L' i n hi h hp => h.rdSub hp hi
  have a1 : (at_ : Int) + 4 = ((at_ + 4 : Nat) : Int) := by omega
  have a2 : ((at_ + 4 : Nat) : Int) + ((NB bs at_ : Nat) : Int) = ((at_ + 4 + NB bs at_ : Nat) : Int) := by omega
  have a3 : ((at_ + 4 + NB bs at_ : Nat) : Int) + (4 - ((NB bs at_ : Nat) : Int) % 4) % 4 = ((at_ + 4 + NB bs at_ + padN (NB bs at_) : Nat) : Int) := by rw [← hpn2]; omega
  (refine hc_seq ?_; refine Zw rfl rfl rfl rfl rfl ?_; refine hx_plain rfl ?_; refine h_not rfl rfl rfl rfl ?_; refine Zt ?_; refine hc_condF rfl ?_; refine hc_skip ?_; refine hq_then ?_; refine hc_seq ?_; refine Zw rfl rfl rfl rfl rfl ?_; refine Zc rfl rfl rfl rfl rfl rfl rfl ?_; refine Zm rfl rfl rfl rfl rfl ?_; refine hx_gF rfl rfl rfl (by omega) ?_; (iterate 2 (refine hx_yes rfl rfl rfl ?_; refine h_move rfl rfl rfl rfl ?_)); refine hx_yes rfl rfl rfl ?_; refine h_convInt rfl rfl UC.out UC.out rfl rfl ?_; refine hx_yes rfl rfl rfl ?_; refine h_cmp rfl rfl rfl rfl rfl rfl ?_; refine Zp rfl rfl rfl rfl rfl rfl ?_; refine Zt ?_; refine hc_condDF rfl (by omega) ?_; refine hc_skip ?_; refine hq_then ?_; refine Zw rfl rfl rfl rfl rfl ?_; refine hx_plain rfl ?_; refine h_convInt rfl rfl UC.out UC.out rfl rfl ?_; refine Zn rfl rfl rfl rfl rfl ?_; refine Zw rfl rfl rfl rfl rfl ?_; refine hx_plain rfl ?_; refine h_remI rfl rfl rfl (by omega) rfl rfl ?_; refine hx_plain rfl ?_; refine h_arithI rfl rfl rfl rfl (by omega) rfl rfl ?_; refine hx_plain rfl ?_; refine h_remI rfl rfl rfl (by omega) rfl rfl ?_; refine Zn rfl rfl rfl rfl rfl ?_; (iterate 2 (refine hc_seq ?_)); refine hc_draw0 (by kernel_rfl) (by kernel_rfl) ?_; refine Zm rfl rfl rfl rfl rfl ?_; refine hx_plain rfl ?_; refine h_nilCheck rfl rfl rfl rfl ?_; refine Zf rfl rfl rfl rfl rfl ?_; refine hx_plain rfl ?_; refine h_load rfl rfl UC.out rfl (.tail .head) rfl rfl rfl ?_; refine hx_plain rfl ?_; refine h_len_slice rfl rfl rfl UC.out rfl rfl rfl ?_; refine Zm rfl rfl rfl rfl rfl ?_; refine hx_plain rfl ?_; refine h_nilCheck rfl rfl rfl rfl ?_; refine Zf rfl rfl rfl rfl rfl ?_; refine hx_plain rfl ?_; refine h_load rfl rfl UC.out rfl (.tail .head) rfl rfl rfl ?_; (iterate 2 (refine hx_plain rfl ?_; refine h_arithI rfl rfl rfl rfl (by omega) rfl rfl ?_; refine Zm rfl rfl rfl rfl rfl ?_)); refine hx_plain rfl ?_; refine h_arithI rfl rfl rfl rfl (by omega) rfl rfl ?_; refine Zc rfl rfl rfl rfl rfl rfl rfl ?_; refine Zt ?_; refine hc_condDF rfl (by omega) ?_; refine hc_skip ?_; refine hq_then ?_; refine hc_seq ?_; refine hc_draw0 (by kernel_rfl) (by kernel_rfl) ?_; (iterate 2 (refine Zm rfl rfl rfl rfl rfl ?_; refine hx_plain rfl ?_; refine h_nilCheck rfl rfl rfl rfl ?_; refine Zf rfl rfl rfl rfl rfl ?_; refine hx_plain rfl ?_; refine h_load rfl rfl UC.out rfl (.tail .head) rfl rfl rfl ?_)); refine hx_plain rfl ?_; refine h_arithI rfl rfl rfl rfl (by omega) rfl rfl ?_; refine Zm rfl rfl rfl rfl rfl ?_; refine hx_plain rfl ?_; refine h_nilCheck rfl rfl rfl rfl ?_; refine Zf rfl rfl rfl rfl rfl ?_; refine hx_plain rfl ?_; refine h_load rfl rfl UC.out rfl (.tail .head) rfl rfl rfl ?_; refine hx_plain rfl ?_; refine h_arithI rfl rfl rfl rfl (by omega) rfl rfl ?_; refine Zm rfl rfl rfl rfl rfl ?_; refine hx_plain rfl ?_; refine h_arithI rfl rfl rfl rfl (by omega) rfl rfl ?_; refine hx_plain rfl ?_)
  rw [wNB, a1, a2]
  refine h_cut (at_ + 4) (at_ + 4 + NB bs at_) rfl rfl rfl rfl UC.out IC.size (by omega) rfl rfl ?_
  rw [show at_ + 4 + NB bs at_ - (at_ + 4) = NB bs at_ by omega]
  (refine hx_plain rfl ?_)
  refine h_callW (post := fun u M => M = [RowV byteE 5 u ((bs.drop (at_ + 4)).take (NB bs at_))]) rfl rfl rfl rfl rfl rfl rfl rfl EC.out (fun w' h => bytes_makes (hB _ _ _ _ _ (at_ + 4) (NB bs at_) (by omega) h .head) (by rw [List.length_take]; omega)) ?_
  rintro vd M rfl
  (refine Zn rfl rfl rfl rfl rfl ?_; refine hc_seq ?_; refine hc_draw0 (by kernel_rfl) (by kernel_rfl) ?_; (iterate 2 (refine Zm rfl rfl rfl rfl rfl ?_; refine hx_plain rfl ?_; refine h_nilCheck rfl rfl rfl rfl ?_; refine Zf rfl rfl rfl rfl rfl ?_; refine hx_plain rfl ?_; refine h_load rfl rfl UC.out rfl (.tail (.tail .head)) rfl rfl rfl ?_)); (iterate 2 (refine hx_plain rfl ?_; refine h_arithI rfl rfl rfl rfl (by omega) rfl rfl ?_; refine Zm rfl rfl rfl rfl rfl ?_)); refine hx_plain rfl ?_; refine h_nilCheck rfl rfl rfl rfl ?_; refine Zf rfl rfl rfl rfl rfl ?_; refine hx_plain rfl ?_; refine h_load rfl rfl UC.out rfl (.tail (.tail .head)) rfl rfl rfl ?_; (iterate 2 (refine hx_plain rfl ?_; refine h_arithI rfl rfl rfl rfl (by omega) rfl rfl ?_; refine Zm rfl rfl rfl rfl rfl ?_)); refine hx_plain rfl ?_; refine h_arithI rfl rfl rfl rfl (by omega) rfl rfl ?_; refine hx_plain rfl ?_)
  rw [a1, a2, a3]
  refine h_cut (at_ + 4 + NB bs at_) (at_ + 4 + NB bs at_ + padN (NB bs at_)) rfl rfl rfl rfl UC.out IC.size (by omega) rfl rfl ?_
  rw [show at_ + 4 + NB bs at_ + padN (NB bs at_) - (at_ + 4 + NB bs at_) = padN (NB bs at_) by omega]
  (refine hx_plain rfl ?_)
  refine h_callRd rfl rfl rfl rfl rfl rfl EC.out (fun w' h => allZero_reads (hB _ _ _ _ _ (at_ + 4 + NB bs at_) (padN (NB bs at_)) (by omega) h (.tail .head))) ?_
  by_cases h5 : ∀ x ∈ padsOf bs at_, x = 0
  · have hE : bodyE bs at_ most = 0 := by unfold bodyE; rw [if_neg h1, if_neg (fun h => h h2), if_neg (by omega), if_neg h4, if_pos h5]
    rw [show BodyR bs at_ 0 most = ((bs.drop (at_ + 4)).take (NB bs at_), at_ + 4 + NB bs at_ + padN (NB bs at_), 0) by unfold BodyR; rw [if_neg (by simp), if_pos hE]]
    rw [decide_eq_true (show ∀ x ∈ (bs.drop (at_ + 4 + NB bs at_)).take (padN (NB bs at_)), x = 0 from h5)]
    (refine Zn rfl rfl rfl rfl rfl ?_; refine hc_seq ?_; refine Zw rfl rfl rfl rfl rfl ?_; refine hx_plain rfl ?_; refine h_not rfl rfl rfl rfl ?_; refine Zt ?_; refine hc_condF rfl ?_; refine hc_skip ?_; refine hq_then ?_; refine Zw rfl rfl rfl rfl rfl ?_; refine Zm rfl rfl rfl rfl rfl ?_; refine hx_plain rfl ?_; refine h_nilCheck rfl rfl rfl rfl ?_; refine Zf rfl rfl rfl rfl rfl ?_; refine hx_plain rfl ?_; refine h_load rfl rfl UC.out rfl (.tail (.tail .head)) rfl rfl rfl ?_; (iterate 2 (refine hx_plain rfl ?_; refine h_arithI rfl rfl rfl rfl (by omega) rfl rfl ?_; refine Zm rfl rfl rfl rfl rfl ?_)); refine hx_plain rfl ?_; refine h_arithI rfl rfl rfl rfl (by omega) rfl rfl ?_; refine hx_plain rfl ?_; refine h_nilCheck rfl rfl rfl rfl ?_; refine Zf rfl rfl rfl rfl rfl ?_; refine hx_plain rfl ?_; refine h_store1 rfl rfl rfl rfl rfl rfl IC.size (.tail (.tail .head)) rfl rfl rfl ?_; refine Zt ?_; refine Zw rfl rfl rfl rfl rfl ?_; refine Zn rfl rfl rfl rfl rfl ?_; refine hc_ret ?_)
    rw [a1, a2, a3]
    skip
    exact hq_ret1 (.inr rfl) rfl rfl rfl (fun _ h => ((RRd_row (h.pulls (.cons .head (.cons (.tail .head) .nil)))).perm (List.Perm.swap _ _ _)))
  · have hE : bodyE bs at_ most = 15 := by unfold bodyE; rw [if_neg h1, if_neg (fun h => h h2), if_neg (by omega), if_neg h4, if_neg h5]
    rw [show BodyR bs at_ 0 most = ([], at_, 15) by unfold BodyR; rw [if_neg (by simp), hE, if_neg (by decide)]]
    rw [decide_eq_false (show ¬ ∀ x ∈ (bs.drop (at_ + 4 + NB bs at_)).take (padN (NB bs at_)), x = 0 from h5)]
    (refine Zn rfl rfl rfl rfl rfl ?_; refine hc_seq ?_; refine Zw rfl rfl rfl rfl rfl ?_; refine hx_plain rfl ?_; refine h_not rfl rfl rfl rfl ?_; refine Zt ?_; refine hc_condT rfl ?_; refine Zw rfl rfl rfl rfl rfl ?_; refine hx_plain rfl ?_; refine h_nilCheck rfl rfl rfl rfl ?_; refine Zf rfl rfl rfl rfl rfl ?_; refine hx_plain rfl ?_; refine h_store1 rfl rfl rfl rfl rfl rfl IC.size (.tail (.tail .head)) rfl rfl rfl ?_; refine Zt ?_; refine Zx rfl rfl rfl rfl rfl ?_; refine hc_ret ?_; refine hq_ret_then ?_)
    exact hq_ret1 (.inr rfl) rfl rfl rfl (fun _ h => St.rowV_nil ((RRd_row (h.pulls (.cons .head (.cons (.tail .head) .nil)))).sub (.cons .head .nil)))
set_option maxHeartbeats 1000000 in
theorem rtext_spec : Spec Tryz.prog 81 [.pointer (some ⟨q, 0, none⟩), .int .i64 most] [RRd q bs at_ er] (fun u M => u = .string (strOf (BodyR bs at_ er most).1) ∧ M = [RRd q bs (BodyR bs at_ er most).2.1 (BodyR bs at_ er most).2.2]) := by
  refine spec_of Tryz.func81 rfl rfl (Nat.le_of_ble_eq_true rfl) (fun w F => ?_)
  (refine Zx rfl rfl rfl rfl rfl ?_; refine Zw rfl rfl rfl rfl rfl ?_; refine Zm rfl rfl rfl rfl rfl ?_; refine hx_plain rfl ?_)
  refine h_call rfl rfl rfl rfl rfl rfl rfl rfl EC.out (.cons .head .nil) (rbytes_spec q bs at_ er hb hl hat most hm) ?_
  rintro u M rfl
  (refine hx_plain rfl ?_)
  refine h_toString rfl rfl UC.out UC.out UC.out (fun w' h => h.rdRowV .head) rfl rfl ?_
  (refine Zn rfl rfl rfl rfl rfl ?_; refine hc_ret ?_)
  exact hq_ret1 (.inr rfl) rfl rfl ⟨rfl, rfl⟩ (fun _ h => h.sub (.cons (.tail .head) .nil))
end
end Go.Proofs.YtfolhmlldoepfaaGreatDoor
namespace Go.Proofs.YtfolhmlldoepfaaGreatDoor
open Go Go.Proofs Go.RowKit
set_option maxRecDepth 4000
theorem ba_at {s : ByteArray} {i : Nat} (h : i < s.size) : ∃ b : UInt8, s.data[((i : Nat) : Int).toNat]? = some b ∧ (strBytes s)[i]? = some (b.toNat : Int) := by
  have h2 : i < s.data.size := h
  refine ⟨s.data[i], ?_, ?_⟩
  · show s.data[i]? = _
    exact Array.getElem?_eq_getElem h2
  · unfold strBytes
    rw [List.getElem?_map, Array.getElem?_toList, Array.getElem?_eq_getElem h2]
    rfl
theorem mg_eq {bs : List Int} {mg : ByteArray} (hb : Byts bs) : ((strOf (bs.take 4)).toList == mg.toList) = true ↔ bs.take 4 = strBytes mg := by
  constructor
  · intro h
    have h1 : strOf (bs.take 4) = mg := toList_inj (by simpa using h)
    rw [← h1, strBytes_of (fun x hx => hb x (List.mem_of_mem_take hx))]
  · intro h
    rw [h, strOf_bytes, beq_self_eq_true]
set_option maxHeartbeats 4000000 in
theorem ropened_makes {w : World} {v : Value} {bs : List Int} (hr : Rd byteE w v bs) (hb : Byts bs) (mg : ByteArray) (hmg : mg.size = 4) : Makes Tryz.prog 75 [v, .string mg] w
    (fun u M => if openE bs mg = 0 then ∃ q, u = .tuple #[.pointer (some ⟨q, 0, none⟩), .int .i64 0] ∧ M = [RRd q (midB bs) 0 0] else u = .tuple #[.pointer none, .int .i64 (openE bs mg)] ∧ M = []) := by
  have h0 := hr
  obtain ⟨a1, c1, rfl, l1, m1, k1⟩ := hr
  unfold maxLen at m1
  have hml : (strBytes mg).length = 4 := by rw [strBytes_len]; exact hmg
  refine makes_of Tryz.func75 rfl rfl (Nat.le_of_ble_eq_true rfl) ?_
  by_cases q1 : 1400 < bs.length
  · have e1 : openE bs mg = 49 := if_pos q1
    rw [e1]
    (refine Zv rfl rfl rfl rfl rfl ?_; refine Zn rfl rfl rfl rfl rfl ?_; refine hc_seq ?_; refine Zw rfl rfl rfl rfl rfl ?_; refine hx_plain rfl ?_; refine h_len_slice rfl rfl rfl UC.out rfl rfl rfl ?_; refine Zc rfl rfl rfl rfl rfl rfl rfl ?_; refine Zt ?_; refine hc_condDT rfl (by omega) ?_; refine Zv rfl rfl rfl rfl rfl ?_; refine Zn rfl rfl rfl rfl rfl ?_; refine hc_ret ?_; refine hq_ret_then ?_)
    exact hq_ret2 (.inr rfl) rfl rfl rfl ⟨rfl, rfl⟩ (fun _ h => h.emp)
  (refine Zv rfl rfl rfl rfl rfl ?_; refine Zn rfl rfl rfl rfl rfl ?_; refine hc_seq ?_; refine Zw rfl rfl rfl rfl rfl ?_; refine hx_plain rfl ?_; refine h_len_slice rfl rfl rfl UC.out rfl rfl rfl ?_; refine Zc rfl rfl rfl rfl rfl rfl rfl ?_; refine Zt ?_; refine hc_condDF rfl (by omega) ?_; refine hc_skip ?_; refine hq_then ?_; refine hc_seq ?_; refine Zx rfl rfl rfl rfl rfl ?_; refine hc_block ?_)
  refine hc_cut (id := 0) (Y := Unit) (fun _ => [(0, .slice a1 bs.length c1), (1, .string mg)]) (fun _ => []) (fun _ => 4 ≤ bs.length ∧ bs.take 4 = strBytes mg) ?_ ?_
  · refine hc_loop (X := Nat) (fun i => [(0, .slice a1 bs.length c1), (1, .string mg), (6, .int .i64 (i : Int))]) (fun _ => []) (fun i => i ≤ 4 ∧ i ≤ bs.length ∧ bs.take i = (strBytes mg).take i) (fun i => 4 - i) 0 (.cons rfl (.cons rfl (.cons rfl .nil))) ⟨Nat.zero_le _, Nat.zero_le _, rfl⟩ (fun _ h => h.emp) ?_
    rintro i ⟨hi, hi2, hz⟩
    by_cases hlt : i < 4
    case neg =>
      obtain rfl : i = 4 := by omega
      (refine hc_seq ?_; refine Zw rfl rfl rfl rfl rfl ?_; refine Zc rfl rfl rfl rfl rfl rfl rfl ?_; refine Zt ?_; refine hc_condF rfl ?_; refine hc_exit ?_; (iterate 2 (refine hq_exit_then ?_)))
      refine hq_cut () ⟨hi2, ?_⟩ (.cons rfl (.cons rfl .nil)) (fun _ h => h)
      rw [hz, List.take_of_length_le (by omega)]
    by_cases hlt2 : i < bs.length
    case neg =>
      have e1 : openE bs mg = 41 := by unfold openE; rw [if_neg q1, if_pos (.inl (by omega))]
      rw [e1]
      (refine hc_seq ?_; refine Zw rfl rfl rfl rfl rfl ?_; refine Zc rfl rfl rfl rfl rfl rfl rfl ?_; refine Zt ?_; refine hc_condDT rfl (by omega) ?_; refine hc_skip ?_; refine hq_then ?_; refine hc_seq ?_; refine hc_block ?_; refine hc_seq ?_; refine hc_draw0 (by kernel_rfl) (by kernel_rfl) ?_; (iterate 2 (refine Zm rfl rfl rfl rfl rfl ?_)); refine hx_plain rfl ?_; refine h_len_slice rfl rfl rfl UC.out rfl rfl rfl ?_; refine Zc rfl rfl rfl rfl rfl rfl rfl ?_; refine Zm rfl rfl rfl rfl rfl ?_; refine hx_gT rfl rfl rfl (by omega) ?_; (iterate 8 (refine hx_skip rfl rfl rfl rfl rfl rfl ?_)); refine Zq rfl rfl rfl rfl rfl rfl ?_; refine Zt ?_; refine hc_condT rfl ?_; refine Zv rfl rfl rfl rfl rfl ?_; refine Zn rfl rfl rfl rfl rfl ?_; refine hc_ret ?_; refine hq_ret_block ?_; (iterate 2 (refine hq_ret_then ?_)); refine hq_cut_ret ?_; refine hq_ret_block ?_; refine hq_ret_then ?_)
      exact hq_ret2 (.inr rfl) rfl rfl rfl ⟨rfl, rfl⟩ (fun _ h => h.emp)
    have hne : bs ≠ [] := by
      intro e
      rw [e] at hlt2
      exact absurd hlt2 (Nat.not_lt_zero _)
    obtain ⟨g1, o1, rfl, r1⟩ := k1.resolve_left hne
    obtain ⟨x, hx⟩ : ∃ x, bs[i]'hlt2 = x := ⟨_, rfl⟩
    have e1 : bs[((i : Nat) : Int).toNat]? = some x := by
      show bs[i]? = _
      rw [List.getElem?_eq_getElem hlt2, hx]
    obtain ⟨y, e2, e3⟩ := ba_at (s := mg) (i := i) (by omega)
    have hxr := hb x (by rw [← hx]; exact List.getElem_mem hlt2)
    have hs1 : bs.take (i + 1) = bs.take i ++ [x] := by rw [take_succ1 hlt2, hx]
    have hs2 : (strBytes mg).take (i + 1) = (strBytes mg).take i ++ [(y.toNat : Int)] := by rw [List.take_add_one, e3]; rfl
    (refine hc_seq ?_; refine Zw rfl rfl rfl rfl rfl ?_; refine Zc rfl rfl rfl rfl rfl rfl rfl ?_; refine Zt ?_; refine hc_condDT rfl (by omega) ?_; refine hc_skip ?_; refine hq_then ?_; refine hc_seq ?_; refine hc_block ?_; refine hc_seq ?_; refine hc_draw0 (by kernel_rfl) (by kernel_rfl) ?_; (iterate 2 (refine Zm rfl rfl rfl rfl rfl ?_)); refine hx_plain rfl ?_; refine h_len_slice rfl rfl rfl UC.out rfl rfl rfl ?_; refine Zc rfl rfl rfl rfl rfl rfl rfl ?_; refine Zm rfl rfl rfl rfl rfl ?_; refine hx_gF rfl rfl rfl (by omega) ?_; (iterate 2 (refine hx_yes rfl rfl rfl ?_; refine h_move rfl rfl rfl rfl ?_)); refine hx_yes rfl rfl rfl ?_; refine h_indexAddr rfl rfl rfl UC.out IC.size (by omega) (by omega) rfl rfl ?_; refine hx_yes rfl rfl rfl ?_; refine h_rdLoad1 rfl r1 rfl UC.out rfl (by with_reducible assumption) rfl rfl rfl ?_; (iterate 2 (refine hx_yes rfl rfl rfl ?_; refine h_move rfl rfl rfl rfl ?_)); refine hx_yes rfl rfl rfl ?_; refine h_indexS rfl rfl rfl UC.out (by omega) (by with_reducible assumption) rfl rfl ?_; refine hx_yes rfl rfl rfl ?_; refine h_cmp rfl rfl rfl rfl rfl rfl ?_; refine Zp rfl rfl rfl rfl rfl rfl ?_; refine Zt ?_; refine hc_condD rfl (fun hc => ?_) (fun hc => ?_); refine Zv rfl rfl rfl rfl rfl ?_; refine Zn rfl rfl rfl rfl rfl ?_; refine hc_ret ?_; refine hq_ret_block ?_; (iterate 2 (refine hq_ret_then ?_)); refine hq_cut_ret ?_; refine hq_ret_block ?_; refine hq_ret_then ?_; rotate_left; refine hc_skip ?_; refine hq_norm_block ?_; refine hq_then ?_; refine hc_lex ?_; refine Zm rfl rfl rfl rfl rfl ?_; refine hx_plain rfl ?_; refine h_arithI rfl rfl rfl rfl (by omega) rfl rfl ?_; refine Za rfl rfl rfl rfl rfl ?_; refine hx_nil ?_; rotate_left)
    · have hopen : openE bs mg = 41 := by
        unfold openE
        rw [if_neg q1, if_pos]
        by_cases q2 : bs.length < 4
        · exact .inl q2
        right
        rw [Bool.eq_false_iff]
        intro h
        have h2 := (mg_eq hb).1 h
        have h3 : bs.take (i + 1) = (strBytes mg).take (i + 1) := by
          have := congrArg (List.take (i + 1)) h2
          rwa [List.take_take, Nat.min_eq_left (by omega)] at this
        rw [hs1, hs2, hz] at h3
        have h4 := List.append_cancel_left h3
        injection h4 with h4
        exact hc (by rw [h4])
      rw [hopen]
      exact hq_ret2 (.inr rfl) rfl rfl rfl ⟨rfl, rfl⟩ (fun _ h => h.emp)
    · refine hq_round (i + 1) (by omega) ⟨by omega, by omega, ?_⟩ (.cons rfl (.cons rfl (.cons rfl .nil))) (fun _ h => h)
      rw [hs1, hs2, hz]
      congr 2
      exact Classical.not_not.1 hc
  rintro ⟨⟩ ⟨q2, q2'⟩
  have hq2 : ¬ (bs.length < 4 ∨ ((strOf (bs.take 4)).toList == mg.toList) = false) := fun h => h.elim (by omega) (fun h => by rw [(mg_eq hb).2 q2'] at h; cases h)
  have hne : bs ≠ [] := by
    intro e
    rw [e] at q2
    exact absurd q2 (by decide)
  obtain ⟨g1, o1, rfl, r1⟩ := k1.resolve_left hne
  by_cases q3 : bs.length < 12
  · have e1 : openE bs mg = 48 := by unfold openE; rw [if_neg q1, if_neg hq2, if_pos (.inl q3)]
    rw [e1]
    (refine hq_exit_block ?_; refine hq_then ?_; refine hc_seq ?_; refine Zw rfl rfl rfl rfl rfl ?_; refine hx_plain rfl ?_; refine h_len_slice rfl rfl rfl UC.out rfl rfl rfl ?_; refine Zc rfl rfl rfl rfl rfl rfl rfl ?_; refine Zt ?_; refine hc_condDT rfl (by omega) ?_; refine Zv rfl rfl rfl rfl rfl ?_; refine Zn rfl rfl rfl rfl rfl ?_; refine hc_ret ?_; refine hq_ret_then ?_)
    exact hq_ret2 (.inr rfl) rfl rfl rfl ⟨rfl, rfl⟩ (fun _ h => h.emp)
  have hn8 : ((bs.length : Int) - 8).toNat = bs.length - 8 := by omega
  have hd8 : (bs.drop (bs.length - 8)).length = 8 := by rw [List.length_drop]; omega
  (refine hq_exit_block ?_; refine hq_then ?_; refine hc_seq ?_; refine Zw rfl rfl rfl rfl rfl ?_; refine hx_plain rfl ?_; refine h_len_slice rfl rfl rfl UC.out rfl rfl rfl ?_; refine Zc rfl rfl rfl rfl rfl rfl rfl ?_; refine Zt ?_; refine hc_condDF rfl (by omega) ?_; refine hc_skip ?_; refine hq_then ?_; refine Zw rfl rfl rfl rfl rfl ?_; refine hx_plain rfl ?_; refine h_len_slice rfl rfl rfl UC.out rfl rfl rfl ?_; refine hx_plain rfl ?_; refine h_arithI rfl rfl rfl rfl (by omega) rfl rfl ?_; refine Zn rfl rfl rfl rfl rfl ?_; refine Zw rfl rfl rfl rfl rfl ?_; refine Zm rfl rfl rfl rfl rfl ?_; refine hx_plain rfl ?_)
  refine h_sliceFrom rfl rfl rfl UC.out IC.size (by omega) rfl rfl ?_
  rw [hn8]
  simp only [Option.map_some, addr_sub]
  (refine hx_plain rfl ?_)
  refine h_callW (post := fun u M => ∃ q, u = .pointer (some ⟨q, 0, none⟩) ∧ M = [RRd q (bs.drop (bs.length - 8)) 0 0]) rfl rfl rfl rfl rfl rfl rfl rfl EC.out (fun w' h => rnew_makes ((h0.but h.but).dropN (i := bs.length - 8) (by omega) rfl) (by omega)) ?_
  rintro u M ⟨p, rfl, rfl⟩
  (refine Zn rfl rfl rfl rfl rfl ?_)
  (repeat' (first | refine hc_seq ?_ | refine hc_lex ?_))
  refine hc_drawO [0, 2, 3, 4, 1, 5, 6] (fun _ => false) (by kernel_rfl) (by kernel_rfl) rfl ?_
  ((iterate 3 (refine Zm rfl rfl rfl rfl rfl ?_)); refine hx_plain rfl ?_; refine h_sliceTo rfl rfl rfl UC.out IC.size (by omega) rfl rfl ?_; refine hx_plain rfl ?_)
  refine h_call rfl rfl rfl rfl rfl rfl rfl rfl EC.out (.cons .head .nil) (rdsum_spec p (bs.drop (bs.length - 8)) 0 0 (fun x hx => hb x (List.mem_of_mem_drop hx)) (by omega) (by omega)) ?_
  rintro u M ⟨rfl, rfl⟩
  (refine hx_plain rfl ?_)
  rw [hn8]
  refine h_callRd rfl rfl rfl rfl rfl rfl EC.out (fun w' h => rsum_reads ((h0.but h.but).takeN (n := bs.length - 8) (by omega))) ?_
  have e8 : SumR (bs.drop (bs.length - 8)) 0 0 = (N8 (bs.drop (bs.length - 8)) 0, 8, 0) := by unfold SumR; rw [if_neg (by simp), if_neg (by omega)]
  rw [e8]
  (refine Zc rfl rfl rfl rfl rfl rfl rfl ?_; refine Zt ?_; refine hc_condD rfl (fun hc => ?_) (fun hc => ?_); refine Zv rfl rfl rfl rfl rfl ?_; refine Zn rfl rfl rfl rfl rfl ?_; refine hc_ret ?_; refine hq_ret_then ?_; rotate_left; refine hc_skip ?_; refine hq_then ?_; refine Zw rfl rfl rfl rfl rfl ?_; refine Zm rfl rfl rfl rfl rfl ?_; refine hx_plain rfl ?_; rotate_left)
  · have e1 : openE bs mg = 48 := by unfold openE; rw [if_neg q1, if_neg hq2, if_pos (.inr hc)]
    rw [e1]
    exact hq_ret2 (.inr rfl) rfl rfl rfl ⟨rfl, rfl⟩ (fun _ h => h.emp)
  have e1 : openE bs mg = 0 := by unfold openE; rw [if_neg q1, if_neg hq2, if_neg (fun h => h.elim q3 hc)]
  rw [e1]
  skip
  refine h_sliceFT rfl rfl rfl rfl UC.out IC.size (by omega) rfl rfl ?_
  rw [hn8]
  simp only [Option.map_some, addr_sub]
  (refine hx_plain rfl ?_)
  refine h_callW (post := fun u M => ∃ q, u = .pointer (some ⟨q, 0, none⟩) ∧ M = [RRd q (midB bs) 0 0]) rfl rfl rfl rfl rfl rfl rfl rfl EC.out (fun w' h => rnew_makes (by have := (h0.but h.but).sub (i := 4) (j := bs.length - 8) (by omega) (by omega); rwa [show bs.length - 8 - 4 = bs.length - 12 by omega] at this) (by unfold midB; rw [List.length_take, List.length_drop]; omega)) ?_
  rintro u M ⟨p2, rfl, rfl⟩
  (refine Za rfl rfl rfl rfl rfl ?_; refine Zn rfl rfl rfl rfl rfl ?_; refine hc_ret ?_)
  refine hq_ret2 (.inr rfl) rfl rfl rfl ⟨p2, rfl, rfl⟩ (fun _ h => h.sub (.cons .head .nil))
set_option maxHeartbeats 4000000 in
theorem rkind_reads {bs : List Int} {w : World} {v : Value} (h : Rd byteE w v bs) (hb : Byts bs) : Calls Tryz.prog 43 [v].toArray w (fun en w' => en = .returned (.int .i64 (kindR bs)) ∧ But w w' nowhere) := by
  have hk : kindR bs = if bs.length < 4 then 0 else if bs.take 4 = [65, 78, 81, 49] then 1 else if bs.take 4 = [65, 78, 82, 49] then 2 else 0 := by
    unfold kindR
    by_cases q : bs.length < 4
    · rw [if_pos q, if_pos q]
    rw [if_neg q, if_neg q]
    have e1 : ((strOf (bs.take 4)).toList == mgQ.toList) = true ↔ bs.take 4 = [65, 78, 81, 49] := mg_eq hb
    have e2 : ((strOf (bs.take 4)).toList == mgR.toList) = true ↔ bs.take 4 = [65, 78, 82, 49] := mg_eq hb
    simp only [e1, e2]
  obtain ⟨a1, c1, rfl, l1, m1, k1⟩ := h
  unfold maxLen at m1
  refine reads_of Tryz.func43 rfl rfl (Nat.le_of_ble_eq_true rfl) ?_
  rw [hk]
  by_cases q2 : bs.length < 4
  · rw [if_pos q2]
    (refine Zx rfl rfl rfl rfl rfl ?_; refine hc_seq ?_; refine Zw rfl rfl rfl rfl rfl ?_; refine hx_plain rfl ?_; refine h_len_slice rfl rfl rfl UC.out rfl rfl rfl ?_; refine Zc rfl rfl rfl rfl rfl rfl rfl ?_; refine Zm rfl rfl rfl rfl rfl ?_; refine hx_gT rfl rfl rfl (by omega) ?_; (iterate 2 ((iterate 4 (refine hx_skip rfl rfl rfl rfl rfl rfl ?_)); refine Zq rfl rfl rfl rfl rfl rfl ?_; refine Zm rfl rfl rfl rfl rfl ?_)); (iterate 4 (refine hx_skip rfl rfl rfl rfl rfl rfl ?_)); refine Zq rfl rfl rfl rfl rfl rfl ?_; refine Zt ?_; refine hc_condT rfl ?_; refine Zx rfl rfl rfl rfl rfl ?_; refine hc_ret ?_; refine hq_ret_then ?_)
    exact hq_ret1 (.inr rfl) rfl rfl ⟨rfl, rfl⟩ (fun _ h => h.emp)
  rw [if_neg q2]
  have hne : bs ≠ [] := by
    intro e
    rw [e] at q2
    exact q2 (by decide)
  obtain ⟨g1, o1, rfl, r1⟩ := k1.resolve_left hne
  obtain ⟨x0, x1, x2, x3, ys, rfl⟩ : ∃ x0 x1 x2 x3 ys, bs = x0 :: x1 :: x2 :: x3 :: ys := by
    match bs, q2 with
    | [], h => exact absurd (show (0 : Nat) < 4 by decide) h
    | [_], h => exact absurd (show (1 : Nat) < 4 by decide) h
    | [_, _], h => exact absurd (show (2 : Nat) < 4 by decide) h
    | [_, _, _], h => exact absurd (show (3 : Nat) < 4 by decide) h
    | x0 :: x1 :: x2 :: x3 :: ys, _ => exact ⟨x0, x1, x2, x3, ys, rfl⟩
  have i0 : (x0 :: x1 :: x2 :: x3 :: ys)[(0 : Int).toNat]? = some x0 := rfl
  have i1 : (x0 :: x1 :: x2 :: x3 :: ys)[(1 : Int).toNat]? = some x1 := rfl
  have i2 : (x0 :: x1 :: x2 :: x3 :: ys)[(2 : Int).toNat]? = some x2 := rfl
  have i3 : (x0 :: x1 :: x2 :: x3 :: ys)[(3 : Int).toNat]? = some x3 := rfl
  have ht : (x0 :: x1 :: x2 :: x3 :: ys).take 4 = [x0, x1, x2, x3] := rfl
  rw [ht]
  by_cases p0 : x0 = 65
  case neg =>
    rw [if_neg (fun h => p0 (by injection h)), if_neg (fun h => p0 (by injection h))]
    (refine Zx rfl rfl rfl rfl rfl ?_; refine hc_seq ?_; refine Zw rfl rfl rfl rfl rfl ?_; refine hx_plain rfl ?_; refine h_len_slice rfl rfl rfl UC.out rfl rfl rfl ?_; refine Zc rfl rfl rfl rfl rfl rfl rfl ?_; refine Zm rfl rfl rfl rfl rfl ?_; refine hx_yes rfl rfl rfl ?_; refine h_move rfl rfl rfl rfl ?_; refine hx_yes rfl rfl rfl ?_; refine h_indexAddr rfl rfl rfl UC.out IC.size (by omega) (by omega) rfl rfl ?_; refine hx_yes rfl rfl rfl ?_; refine h_rdLoad1 rfl r1 rfl UC.out rfl (by with_reducible assumption) rfl rfl rfl ?_; refine hx_yes rfl rfl rfl ?_; refine h_cmp rfl rfl rfl rfl rfl rfl ?_; refine Zp rfl rfl rfl rfl rfl rfl ?_; refine Zm rfl rfl rfl rfl rfl ?_; refine hx_gT rfl rfl rfl (by omega) ?_; (iterate 4 (refine hx_skip rfl rfl rfl rfl rfl rfl ?_)); refine Zq rfl rfl rfl rfl rfl rfl ?_; refine Zm rfl rfl rfl rfl rfl ?_; (iterate 4 (refine hx_skip rfl rfl rfl rfl rfl rfl ?_)); refine Zq rfl rfl rfl rfl rfl rfl ?_; refine Zt ?_; refine hc_condT rfl ?_; refine Zx rfl rfl rfl rfl rfl ?_; refine hc_ret ?_; refine hq_ret_then ?_)
    exact hq_ret1 (.inr rfl) rfl rfl ⟨rfl, rfl⟩ (fun _ h => h.emp)
  subst p0
  by_cases p1 : x1 = 78
  case neg =>
    rw [if_neg (fun h => p1 (by injection h with _ h; injection h)), if_neg (fun h => p1 (by injection h with _ h; injection h))]
    (refine Zx rfl rfl rfl rfl rfl ?_; refine hc_seq ?_; refine Zw rfl rfl rfl rfl rfl ?_; refine hx_plain rfl ?_; refine h_len_slice rfl rfl rfl UC.out rfl rfl rfl ?_; refine Zc rfl rfl rfl rfl rfl rfl rfl ?_; (iterate 2 (refine Zm rfl rfl rfl rfl rfl ?_; refine hx_yes rfl rfl rfl ?_; refine h_move rfl rfl rfl rfl ?_; refine hx_yes rfl rfl rfl ?_; refine h_indexAddr rfl rfl rfl UC.out IC.size (by omega) (by omega) rfl rfl ?_; refine hx_yes rfl rfl rfl ?_; refine h_rdLoad1 rfl r1 rfl UC.out rfl (by with_reducible assumption) rfl rfl rfl ?_; refine hx_yes rfl rfl rfl ?_; refine h_cmp rfl rfl rfl rfl rfl rfl ?_; refine Zp rfl rfl rfl rfl rfl rfl ?_)); refine Zm rfl rfl rfl rfl rfl ?_; refine hx_gT rfl rfl rfl (by omega) ?_; (iterate 4 (refine hx_skip rfl rfl rfl rfl rfl rfl ?_)); refine Zq rfl rfl rfl rfl rfl rfl ?_; refine Zt ?_; refine hc_condT rfl ?_; refine Zx rfl rfl rfl rfl rfl ?_; refine hc_ret ?_; refine hq_ret_then ?_)
    exact hq_ret1 (.inr rfl) rfl rfl ⟨rfl, rfl⟩ (fun _ h => h.emp)
  subst p1
  by_cases p3 : x3 = 49
  case neg =>
    rw [if_neg (fun h => p3 (by injection h with _ h; injection h with _ h; injection h with _ h; injection h)), if_neg (fun h => p3 (by injection h with _ h; injection h with _ h; injection h with _ h; injection h))]
    (refine Zx rfl rfl rfl rfl rfl ?_; refine hc_seq ?_; refine Zw rfl rfl rfl rfl rfl ?_; refine hx_plain rfl ?_; refine h_len_slice rfl rfl rfl UC.out rfl rfl rfl ?_; refine Zc rfl rfl rfl rfl rfl rfl rfl ?_; (iterate 3 (refine Zm rfl rfl rfl rfl rfl ?_; refine hx_yes rfl rfl rfl ?_; refine h_move rfl rfl rfl rfl ?_; refine hx_yes rfl rfl rfl ?_; refine h_indexAddr rfl rfl rfl UC.out IC.size (by omega) (by omega) rfl rfl ?_; refine hx_yes rfl rfl rfl ?_; refine h_rdLoad1 rfl r1 rfl UC.out rfl (by with_reducible assumption) rfl rfl rfl ?_; refine hx_yes rfl rfl rfl ?_; refine h_cmp rfl rfl rfl rfl rfl rfl ?_; refine Zp rfl rfl rfl rfl rfl rfl ?_)); refine Zt ?_; refine hc_condDT rfl (by omega) ?_; refine Zx rfl rfl rfl rfl rfl ?_; refine hc_ret ?_; refine hq_ret_then ?_)
    exact hq_ret1 (.inr rfl) rfl rfl ⟨rfl, rfl⟩ (fun _ h => h.emp)
  subst p3
  by_cases p2 : x2 = 81
  · subst p2
    rw [if_pos rfl]
    (refine Zx rfl rfl rfl rfl rfl ?_; refine hc_seq ?_; refine Zw rfl rfl rfl rfl rfl ?_; refine hx_plain rfl ?_; refine h_len_slice rfl rfl rfl UC.out rfl rfl rfl ?_; refine Zc rfl rfl rfl rfl rfl rfl rfl ?_; (iterate 3 (refine Zm rfl rfl rfl rfl rfl ?_; refine hx_yes rfl rfl rfl ?_; refine h_move rfl rfl rfl rfl ?_; refine hx_yes rfl rfl rfl ?_; refine h_indexAddr rfl rfl rfl UC.out IC.size (by omega) (by omega) rfl rfl ?_; refine hx_yes rfl rfl rfl ?_; refine h_rdLoad1 rfl r1 rfl UC.out rfl (by with_reducible assumption) rfl rfl rfl ?_; refine hx_yes rfl rfl rfl ?_; refine h_cmp rfl rfl rfl rfl rfl rfl ?_; refine Zp rfl rfl rfl rfl rfl rfl ?_)); refine Zt ?_; refine hc_condF rfl ?_; refine hc_skip ?_; refine hq_then ?_; refine hc_seq ?_; refine Zw rfl rfl rfl rfl rfl ?_; refine hx_plain rfl ?_; refine h_indexAddr rfl rfl rfl UC.out IC.size (by omega) (by omega) rfl rfl ?_; refine hx_plain rfl ?_; refine h_rdLoad1 rfl r1 rfl UC.out rfl (by with_reducible assumption) rfl rfl rfl ?_; refine Zt ?_; refine hc_block ?_; refine Zl rfl ?_; refine h_cmp rfl rfl rfl rfl rfl rfl ?_; refine Zn rfl rfl rfl rfl rfl ?_; refine hc_condT rfl ?_; refine Zx rfl rfl rfl rfl rfl ?_; refine hc_ret ?_; refine hq_ret_block ?_; refine hq_ret_then ?_)
    exact hq_ret1 (.inr rfl) rfl rfl ⟨rfl, rfl⟩ (fun _ h => h.emp)
  rw [if_neg (fun h => p2 (by injection h with _ h; injection h with _ h; injection h))]
  by_cases p4 : x2 = 82
  · subst p4
    rw [if_pos rfl]
    (refine Zx rfl rfl rfl rfl rfl ?_; refine hc_seq ?_; refine Zw rfl rfl rfl rfl rfl ?_; refine hx_plain rfl ?_; refine h_len_slice rfl rfl rfl UC.out rfl rfl rfl ?_; refine Zc rfl rfl rfl rfl rfl rfl rfl ?_; (iterate 3 (refine Zm rfl rfl rfl rfl rfl ?_; refine hx_yes rfl rfl rfl ?_; refine h_move rfl rfl rfl rfl ?_; refine hx_yes rfl rfl rfl ?_; refine h_indexAddr rfl rfl rfl UC.out IC.size (by omega) (by omega) rfl rfl ?_; refine hx_yes rfl rfl rfl ?_; refine h_rdLoad1 rfl r1 rfl UC.out rfl (by with_reducible assumption) rfl rfl rfl ?_; refine hx_yes rfl rfl rfl ?_; refine h_cmp rfl rfl rfl rfl rfl rfl ?_; refine Zp rfl rfl rfl rfl rfl rfl ?_)); refine Zt ?_; refine hc_condF rfl ?_; refine hc_skip ?_; refine hq_then ?_; refine hc_seq ?_; refine Zw rfl rfl rfl rfl rfl ?_; refine hx_plain rfl ?_; refine h_indexAddr rfl rfl rfl UC.out IC.size (by omega) (by omega) rfl rfl ?_; refine hx_plain rfl ?_; refine h_rdLoad1 rfl r1 rfl UC.out rfl (by with_reducible assumption) rfl rfl rfl ?_; refine Zt ?_; refine hc_block ?_; refine Zl rfl ?_; refine h_cmp rfl rfl rfl rfl rfl rfl ?_; refine Zn rfl rfl rfl rfl rfl ?_; refine hc_condF rfl ?_; refine Zl rfl ?_; refine h_cmp rfl rfl rfl rfl rfl rfl ?_; refine Zn rfl rfl rfl rfl rfl ?_; refine hc_condT rfl ?_; refine Zx rfl rfl rfl rfl rfl ?_; refine hc_ret ?_; refine hq_ret_block ?_; refine hq_ret_then ?_)
    exact hq_ret1 (.inr rfl) rfl rfl ⟨rfl, rfl⟩ (fun _ h => h.emp)
  rw [if_neg (fun h => p4 (by injection h with _ h; injection h with _ h; injection h))]
  (refine Zx rfl rfl rfl rfl rfl ?_; refine hc_seq ?_; refine Zw rfl rfl rfl rfl rfl ?_; refine hx_plain rfl ?_; refine h_len_slice rfl rfl rfl UC.out rfl rfl rfl ?_; refine Zc rfl rfl rfl rfl rfl rfl rfl ?_; (iterate 3 (refine Zm rfl rfl rfl rfl rfl ?_; refine hx_yes rfl rfl rfl ?_; refine h_move rfl rfl rfl rfl ?_; refine hx_yes rfl rfl rfl ?_; refine h_indexAddr rfl rfl rfl UC.out IC.size (by omega) (by omega) rfl rfl ?_; refine hx_yes rfl rfl rfl ?_; refine h_rdLoad1 rfl r1 rfl UC.out rfl (by with_reducible assumption) rfl rfl rfl ?_; refine hx_yes rfl rfl rfl ?_; refine h_cmp rfl rfl rfl rfl rfl rfl ?_; refine Zp rfl rfl rfl rfl rfl rfl ?_)); refine Zt ?_; refine hc_condF rfl ?_; refine hc_skip ?_; refine hq_then ?_; refine hc_seq ?_; refine Zw rfl rfl rfl rfl rfl ?_; refine hx_plain rfl ?_; refine h_indexAddr rfl rfl rfl UC.out IC.size (by omega) (by omega) rfl rfl ?_; refine hx_plain rfl ?_; refine h_rdLoad1 rfl r1 rfl UC.out rfl (by with_reducible assumption) rfl rfl rfl ?_; refine Zt ?_; refine hc_block ?_; (iterate 2 (refine Zl rfl ?_; refine h_cmp rfl rfl rfl rfl rfl rfl ?_; refine Zn rfl rfl rfl rfl rfl ?_; refine hc_condDF rfl (by omega) ?_)); refine hc_skip ?_; refine hq_norm_block ?_; refine hq_then ?_; refine Zx rfl rfl rfl rfl rfl ?_; refine hc_ret ?_)
  exact hq_ret1 (.inr rfl) rfl rfl ⟨rfl, rfl⟩ (fun _ h => h.emp)
end Go.Proofs.YtfolhmlldoepfaaGreatDoor
namespace Go.Proofs.YtfolhmlldoepfaaGreatDoor
open Go Go.Proofs Go.RowKit
set_option maxRecDepth 4000
def oU64 (b : Bool) (m : List Int) (p : Nat) (e : Int) : Int × Nat × Int := bif b then U64R m p e mst64 else (0, p, e)
def oU32 (b : Bool) (m : List Int) (p : Nat) (e : Int) : Int × Nat × Int := bif b then U32R m p e mst32 else (0, p, e)
def oTx (b : Bool) (most : Int) (m : List Int) (p : Nat) (e : Int) : List Int × Nat × Int := bif b then BodyR m p e most else ([], p, e)
theorem oU64_at {b : Bool} {m : List Int} {p : Nat} {e : Int} (h : p ≤ m.length) : (oU64 b m p e).2.1 ≤ m.length := by
  cases b
  · exact h
  · exact u64_at h
theorem oU32_at {b : Bool} {m : List Int} {p : Nat} {e : Int} (h : p ≤ m.length) : (oU32 b m p e).2.1 ≤ m.length := by
  cases b
  · exact h
  · exact u32_at h
theorem oTx_at {b : Bool} {most : Int} {m : List Int} {p : Nat} {e : Int} (h : p ≤ m.length) : (oTx b most m p e).2.1 ≤ m.length := by
  cases b
  · exact h
  · exact body_at' h
theorem oTx_len {b : Bool} {most : Int} {m : List Int} {p : Nat} {e : Int} : (oTx b most m p e).1.length ≤ m.length := by
  cases b
  · exact Nat.zero_le _
  · show (BodyR m p e most).1.length ≤ _
    unfold BodyR
    split
    · exact Nat.zero_le _
    · split
      · dsimp only
        rw [List.length_take, List.length_drop]
        omega
      · exact Nat.zero_le _
def stepsQ (m : List Int) (h : UInt8 → Bool) (r : ReqV) (p : Nat) (e : Int) : TkQ :=
  let a0 := oU64 (h 105) m p e
  let a1 := oU32 (h 111) m a0.2.1 a0.2.2
  let a2 := oU32 (h 108) m a1.2.1 a1.2.2
  let a3 := oTx (h 112) 384 m a2.2.1 a2.2.2
  let a4 := oTx (h 110) 23 m a3.2.1 a3.2.2
  let a5 := oU64 (h 106) m a4.2.1 a4.2.2
  let a6 := oTx (h 109) 23 m a5.2.1 a5.2.2
  let a7 := oTx (h 100) 1024 m a6.2.1 a6.2.2
  ⟨{ r with id := a0.1, off := a1.1, len := a2.1, path := strOf a3.1, name := strOf a4.1, id2 := a5.1, name2 := strOf a6.1 }, a7.1, a7.2.1, a7.2.2⟩
theorem stepsQ_eq {m : List Int} {va vb vc vd ve : Int} {p : Nat} {e : Int} (ho : 1 ≤ ve ∧ ve ≤ 10) : takeQs m ⟨⟨va, vb, vc, vd, ve, 0, 0, 0, 0, ⟨#[]⟩, ⟨#[]⟩, ⟨#[]⟩, ⟨none, 0, 0⟩⟩, [], p, e⟩ (rqFs ve) = stepsQ m (fun b => (hasL ve).contains b) ⟨va, vb, vc, vd, ve, 0, 0, 0, 0, ⟨#[]⟩, ⟨#[]⟩, ⟨#[]⟩, ⟨none, 0, 0⟩⟩ p e := by
  have hc : ve = 1 ∨ ve = 2 ∨ ve = 3 ∨ ve = 4 ∨ ve = 5 ∨ ve = 6 ∨ ve = 7 ∨ ve = 8 ∨ ve = 9 ∨ ve = 10 := by omega
  rcases hc with rfl | rfl | rfl | rfl | rfl | rfl | rfl | rfl | rfl | rfl
  all_goals rfl
theorem strOf_size (l : List Int) : (strOf l).size = l.length := by
  have h : ∀ (l : List Int) (r : ByteArray), (l.foldl (fun r n => r.push (UInt8.ofNat n.toNat)) r).size = r.size + l.length := by
    intro l
    induction l with
    | nil => intro r; rfl
    | cons x l ih =>
      intro r
      rw [List.foldl_cons, ih, ByteArray.size_push, List.length_cons]
      omega
  have := h l ByteArray.empty
  rw [show ByteArray.empty.size = 0 from rfl, Nat.zero_add] at this
  exact this
theorem finQ_close {m : List Int} {y : TkQ} {c : Int} (hc : CloseR m y.at_ y.er = c) (h : c ≠ 0) : finQ m y = (.z, [], c) := by
  unfold finQ
  rw [if_pos (by rw [hc]; exact h), hc]
theorem finQ_chk {m : List Int} {y : TkQ} {c : Int} (hc : CloseR m y.at_ y.er = 0) (h : y.fin.chk = c) (h0 : c ≠ 0) : finQ m y = (.z, [], c) := by
  unfold finQ
  rw [if_neg (fun h => h hc), if_pos (by rw [h]; exact h0), h]
theorem finQ_ok {m : List Int} {y : TkQ} (hc : CloseR m y.at_ y.er = 0) (h : y.fin.chk = 0) : finQ m y = (y.fin, y.ds, 0) := by
  unfold finQ
  rw [if_neg (fun h => h hc), if_neg (fun h2 => h2 h)]
set_option maxHeartbeats 16000000 in
theorem rdecodeRequest_makes {w : World} {v : Value} {bs : List Int} (hr : Rd byteE w v bs) (hb : Byts bs) : Makes Tryz.prog 39 [v] w (DecQ (decQ bs)) := by
  refine makes_of Tryz.func39 rfl rfl (Nat.le_of_ble_eq_true rfl) ?_
  have hmb := midB_byts hb
  (refine Zl rfl ?_; (refine h_alloc rfl rfl IC.zero rfl rfl rfl (fun _ => ?_)); refine Zn rfl rfl rfl rfl rfl ?_; refine Zl rfl ?_; (refine h_alloc rfl rfl IC.zero rfl rfl rfl (fun _ => ?_)); refine hx_plain rfl ?_; (refine h_alloc rfl rfl IC.zero rfl rfl rfl (fun _ => ?_)); refine Zt ?_; refine Zw rfl rfl rfl rfl rfl ?_; refine hx_plain rfl ?_)
  refine h_callW (post := fun u M => if openE bs mgQ = 0 then ∃ q, u = .tuple #[.pointer (some ⟨q, 0, none⟩), .int .i64 0] ∧ M = [RRd q (midB bs) 0 0] else u = .tuple #[.pointer none, .int .i64 (openE bs mgQ)] ∧ M = []) rfl rfl rfl rfl rfl rfl rfl rfl EC.out (fun w' h => ropened_makes (hr.but h.but) hb mgQ rfl) ?_
  intro u M hu
  by_cases q1 : openE bs mgQ = 0
  case neg =>
    rw [if_neg q1] at hu
    obtain ⟨rfl, rfl⟩ := hu
    have e1 : decQ bs = (.z, [], openE bs mgQ) := if_pos q1
    rw [e1]
    (refine Zm rfl rfl rfl rfl rfl ?_; (iterate 2 (refine hx_plain rfl ?_; refine h_extract rfl rfl rfl rfl rfl ?_)); refine Za rfl rfl rfl rfl rfl ?_; refine Zn rfl rfl rfl rfl rfl ?_; refine hc_seq ?_; refine Zw rfl rfl rfl rfl rfl ?_; refine Zc rfl rfl rfl rfl rfl rfl rfl ?_; refine Zt ?_; refine hc_condDT rfl (by omega) ?_; refine Zl rfl ?_)
    refine h_loadP (cs' := #[.int .i64 0, .int .i64 0, .int .i64 0, .int .i64 0, .int .i64 0, .int .i64 0, .int .i64 0, .int .i64 0, .int .i64 0, .string ⟨#[]⟩, .string ⟨#[]⟩, .string ⟨#[]⟩, .slice none 0 0]) rfl rfl UC.out rfl IC.size (.tail .head) rfl (by kernel_rfl) rfl rfl ?_
    (refine Zm rfl rfl rfl rfl rfl ?_; refine hx_plain rfl ?_; refine h_storeAll rfl rfl rfl rfl rfl rfl IC.size (.tail (.tail .head)) rfl rfl rfl (List.all_eq_true.1 rfl) ?_; refine Zn rfl rfl rfl rfl rfl ?_; refine hc_ret ?_; refine hq_ret_then ?_)
    exact hq_R2 (.inr rfl) rfl (rv_cell rfl .head UC.out rfl IC.size) (rv_tmp rfl) ⟨none, 0, rfl, rfl⟩ (fun _ h => St.rowV_nil h.emp)
  rw [if_pos q1] at hu
  obtain ⟨q, rfl, rfl⟩ := hu
  obtain ⟨m, hm⟩ : ∃ m, midB bs = m := ⟨_, rfl⟩
  have hml : m.length ≤ 2000 := by
    have h1 := midB_len bs
    rw [hm] at h1
    unfold openE at q1
    split at q1
    · cases q1
    · omega
  rw [hm] at hmb ⊢
  obtain ⟨x0, hx0⟩ : ∃ x0, hdQ0 m = x0 := ⟨_, rfl⟩
  have e1 : decQ bs = if x0.er ≠ 0 then (.z, [], x0.er) else if x0.r.head ≠ 0 then (.z, [], x0.r.head) else finQ m (takeQs m x0 (rqFs x0.r.op)) := by
    unfold decQ
    rw [hm, hx0, if_neg (fun h => h q1)]
  rw [e1]
  clear e1
  unfold hdQ0 at hx0
  dsimp only at hx0
  obtain ⟨⟨va, pa, ea⟩, ha'⟩ : ∃ a, U32R m 0 0 mst32 = a := ⟨_, rfl⟩
  have ga : pa ≤ m.length := by have := u32_at (er := 0) (most := mst32) (Nat.zero_le m.length); rwa [ha'] at this
  rw [ha'] at hx0
  dsimp only at hx0
  obtain ⟨⟨vb, pb, eb⟩, hb'⟩ : ∃ a, U64R m pa ea mst64 = a := ⟨_, rfl⟩
  have gb : pb ≤ m.length := by have := u64_at (er := ea) (most := mst64) ga; rwa [hb'] at this
  rw [hb'] at hx0
  dsimp only at hx0
  obtain ⟨⟨vc, pc, ec⟩, hc'⟩ : ∃ a, U64R m pb eb mst64 = a := ⟨_, rfl⟩
  have gc : pc ≤ m.length := by have := u64_at (er := eb) (most := mst64) gb; rwa [hc'] at this
  rw [hc'] at hx0
  dsimp only at hx0
  obtain ⟨⟨vd, pd, ed⟩, hd'⟩ : ∃ a, U64R m pc ec mst64 = a := ⟨_, rfl⟩
  have gd : pd ≤ m.length := by have := u64_at (er := ec) (most := mst64) gc; rwa [hd'] at this
  rw [hd'] at hx0
  dsimp only at hx0
  obtain ⟨⟨ve, pe, ee⟩, he'⟩ : ∃ a, U32R m pd ed mst32 = a := ⟨_, rfl⟩
  have ge : pe ≤ m.length := by have := u32_at (er := ed) (most := mst32) gd; rwa [he'] at this
  rw [he'] at hx0
  dsimp only at hx0
  (refine Zm rfl rfl rfl rfl rfl ?_; (iterate 2 (refine hx_plain rfl ?_; refine h_extract rfl rfl rfl rfl rfl ?_)); refine Za rfl rfl rfl rfl rfl ?_; refine Zn rfl rfl rfl rfl rfl ?_; refine hc_seq ?_; refine Zw rfl rfl rfl rfl rfl ?_; refine Zc rfl rfl rfl rfl rfl rfl rfl ?_; refine Zt ?_; refine hc_condF rfl ?_; refine hc_skip ?_; refine hq_then ?_; refine Zw rfl rfl rfl rfl rfl ?_; refine hx_plain rfl ?_)
  refine h_call rfl rfl rfl rfl rfl rfl rfl rfl EC.out (.cons .head .nil) (ru32_spec q m 0 0 hmb (by omega) (Nat.zero_le _) mst32 (by decide)) ?_
  rintro u M ⟨rfl, rfl⟩
  rw [ha']
  (refine Zf rfl rfl rfl rfl rfl ?_; refine hx_plain rfl ?_; refine h_store rfl rfl rfl rfl rfl rfl IC.size (.tail .head) rfl rfl (Nat.le_of_ble_eq_true rfl) (List.all_eq_true.1 rfl) ?_; refine Zt ?_; refine Zw rfl rfl rfl rfl rfl ?_; refine hx_plain rfl ?_)
  refine h_call rfl rfl rfl rfl rfl rfl rfl rfl EC.out (.cons (.tail .head) .nil) (ru64_spec q m pa ea hmb (by omega) ga mst64) ?_
  rintro u M ⟨rfl, rfl⟩
  rw [hb']
  (refine Zf rfl rfl rfl rfl rfl ?_; refine hx_plain rfl ?_; refine h_store rfl rfl rfl rfl rfl rfl IC.size (.tail .head) rfl rfl (Nat.le_of_ble_eq_true rfl) (List.all_eq_true.1 rfl) ?_; refine Zt ?_; refine Zw rfl rfl rfl rfl rfl ?_; refine hx_plain rfl ?_)
  refine h_call rfl rfl rfl rfl rfl rfl rfl rfl EC.out (.cons (.tail .head) .nil) (ru64_spec q m pb eb hmb (by omega) gb mst64) ?_
  rintro u M ⟨rfl, rfl⟩
  rw [hc']
  (refine Zf rfl rfl rfl rfl rfl ?_; refine hx_plain rfl ?_; refine h_store rfl rfl rfl rfl rfl rfl IC.size (.tail .head) rfl rfl (Nat.le_of_ble_eq_true rfl) (List.all_eq_true.1 rfl) ?_; refine Zt ?_; refine Zw rfl rfl rfl rfl rfl ?_; refine hx_plain rfl ?_)
  refine h_call rfl rfl rfl rfl rfl rfl rfl rfl EC.out (.cons (.tail .head) .nil) (ru64_spec q m pc ec hmb (by omega) gc mst64) ?_
  rintro u M ⟨rfl, rfl⟩
  rw [hd']
  (refine Zf rfl rfl rfl rfl rfl ?_; refine hx_plain rfl ?_; refine h_store rfl rfl rfl rfl rfl rfl IC.size (.tail .head) rfl rfl (Nat.le_of_ble_eq_true rfl) (List.all_eq_true.1 rfl) ?_; refine Zt ?_; refine Zw rfl rfl rfl rfl rfl ?_; refine hx_plain rfl ?_)
  refine h_call rfl rfl rfl rfl rfl rfl rfl rfl EC.out (.cons (.tail .head) .nil) (ru32_spec q m pd ed hmb (by omega) gd mst32 (by decide)) ?_
  rintro u M ⟨rfl, rfl⟩
  rw [he']
  (refine Zf rfl rfl rfl rfl rfl ?_; refine hx_plain rfl ?_; refine h_store rfl rfl rfl rfl rfl rfl IC.size (.tail .head) rfl rfl (Nat.le_of_ble_eq_true rfl) (List.all_eq_true.1 rfl) ?_; refine Zt ?_; refine Zw rfl rfl rfl rfl rfl ?_; refine hx_plain rfl ?_)
  refine h_call rfl rfl rfl rfl rfl rfl rfl rfl EC.out (.cons (.tail .head) .nil) (rerr_spec q m pe ee) ?_
  rintro u M ⟨rfl, rfl⟩
  have hxr : x0.er = ee := by rw [← hx0]
  by_cases q2 : ee = 0
  case neg =>
    rw [if_pos (by rw [hxr]; exact q2), hxr]
    (refine Zm rfl rfl rfl rfl rfl ?_; (iterate 2 (refine hx_plain rfl ?_; refine h_extract rfl rfl rfl rfl rfl ?_)); refine Zn rfl rfl rfl rfl rfl ?_; refine hc_seq ?_; refine Zw rfl rfl rfl rfl rfl ?_; refine Zc rfl rfl rfl rfl rfl rfl rfl ?_; refine Zt ?_; refine hc_condDT rfl (by omega) ?_; refine Zl rfl ?_)
    refine h_loadP (cs' := #[.int .i64 0, .int .i64 0, .int .i64 0, .int .i64 0, .int .i64 0, .int .i64 0, .int .i64 0, .int .i64 0, .int .i64 0, .string ⟨#[]⟩, .string ⟨#[]⟩, .string ⟨#[]⟩, .slice none 0 0]) rfl rfl UC.out rfl IC.size (.tail (.tail .head)) rfl (by kernel_rfl) rfl rfl ?_
    (refine Zm rfl rfl rfl rfl rfl ?_; refine hx_plain rfl ?_; refine h_storeAll rfl rfl rfl rfl rfl rfl IC.size (.tail (.tail (.tail .head))) rfl rfl rfl (List.all_eq_true.1 rfl) ?_; refine Zn rfl rfl rfl rfl rfl ?_; refine hc_ret ?_; refine hq_ret_then ?_)
    exact hq_R2 (.inr rfl) rfl (rv_cell rfl .head UC.out rfl IC.size) (rv_tmp rfl) ⟨none, 0, rfl, rfl⟩ (fun _ h => St.rowV_nil h.emp)
  subst q2
  rw [if_neg (by rw [hxr]; simp)]
  (refine Zm rfl rfl rfl rfl rfl ?_; (iterate 2 (refine hx_plain rfl ?_; refine h_extract rfl rfl rfl rfl rfl ?_)); refine Zn rfl rfl rfl rfl rfl ?_; refine hc_seq ?_; refine Zw rfl rfl rfl rfl rfl ?_; refine Zc rfl rfl rfl rfl rfl rfl rfl ?_; refine Zt ?_; refine hc_condF rfl ?_; refine hc_skip ?_; refine hq_then ?_; refine Zl rfl ?_)
  refine h_loadP (cs' := #[.int .i64 va, .int .i64 vb, .int .i64 vc, .int .i64 vd, .int .i64 ve, .int .i64 0, .int .i64 0, .int .i64 0, .int .i64 0, .string ⟨#[]⟩, .string ⟨#[]⟩, .string ⟨#[]⟩, .slice none 0 0]) rfl rfl UC.out rfl IC.size (.tail .head) rfl (by kernel_rfl) rfl rfl ?_
  (refine hx_plain rfl ?_)
  refine h_callR rfl rfl rfl rfl rfl rfl EC.out ((rhead_spec ⟨va, vb, vc, vd, ve, 0, 0, 0, 0, ⟨#[]⟩, ⟨#[]⟩, ⟨#[]⟩, ⟨none, 0, 0⟩⟩).reads _) ?_
  have hxh : x0.r = ⟨va, vb, vc, vd, ve, 0, 0, 0, 0, ⟨#[]⟩, ⟨#[]⟩, ⟨#[]⟩, ⟨none, 0, 0⟩⟩ := by rw [← hx0]
  rw [← hxh]
  by_cases q3 : x0.r.head = 0
  case neg =>
    rw [if_pos q3]
    obtain ⟨hd, hhd⟩ : ∃ hd, x0.r.head = hd := ⟨_, rfl⟩
    rw [hhd] at q3 ⊢
    (refine Zn rfl rfl rfl rfl rfl ?_; refine hc_seq ?_; refine Zw rfl rfl rfl rfl rfl ?_; refine Zc rfl rfl rfl rfl rfl rfl rfl ?_; refine Zt ?_; refine hc_condDT rfl (by omega) ?_; refine Zl rfl ?_)
    refine h_loadP (cs' := #[.int .i64 0, .int .i64 0, .int .i64 0, .int .i64 0, .int .i64 0, .int .i64 0, .int .i64 0, .int .i64 0, .int .i64 0, .string ⟨#[]⟩, .string ⟨#[]⟩, .string ⟨#[]⟩, .slice none 0 0]) rfl rfl UC.out rfl IC.size (.tail (.tail .head)) rfl (by kernel_rfl) rfl rfl ?_
    (refine Zm rfl rfl rfl rfl rfl ?_; refine hx_plain rfl ?_; refine h_storeAll rfl rfl rfl rfl rfl rfl IC.size (.tail (.tail (.tail .head))) rfl rfl rfl (List.all_eq_true.1 rfl) ?_; refine Zn rfl rfl rfl rfl rfl ?_; refine hc_ret ?_; refine hq_ret_then ?_)
    exact hq_R2 (.inr rfl) rfl (rv_cell rfl .head UC.out rfl IC.size) (rv_tmp rfl) ⟨none, 0, rfl, rfl⟩ (fun _ h => St.rowV_nil h.emp)
  rw [if_neg (fun h => h q3), q3]
  have ho : 1 ≤ ve ∧ ve ≤ 10 := by have := head_op q3; rw [hxh] at this; exact this
  have hfin : finQ m (takeQs m x0 (rqFs x0.r.op)) = finQ m (stepsQ m (fun b => (hasL ve).contains b) ⟨va, vb, vc, vd, ve, 0, 0, 0, 0, ⟨#[]⟩, ⟨#[]⟩, ⟨#[]⟩, ⟨none, 0, 0⟩⟩ pe 0) := by
    rw [← stepsQ_eq ho, ← hx0]
  rw [hfin]
  clear hfin
  unfold stepsQ
  dsimp only
  (refine Zn rfl rfl rfl rfl rfl ?_; refine hc_seq ?_; refine Zw rfl rfl rfl rfl rfl ?_; refine Zc rfl rfl rfl rfl rfl rfl rfl ?_; refine Zt ?_; refine hc_condF rfl ?_; refine hc_skip ?_; refine hq_then ?_; refine Zl rfl ?_; refine h_fieldAddr0 rfl rfl FC.out rfl rfl ?_; refine hx_plain rfl ?_; refine h_load rfl rfl UC.out rfl (.tail .head) rfl rfl rfl ?_; refine hx_plain rfl ?_)
  refine h_callR rfl rfl rfl rfl rfl rfl EC.out ((has_spec ve).reads _) ?_
  (refine Zn rfl rfl rfl rfl rfl ?_)
  rename_i b2 b4 b5
  have hcat : ∀ b : UInt8, ∃ v : Bool, (hasL ve).contains b = v := fun b => ⟨_, rfl⟩
  refine hc_st (C' := St w nowhere [RRd q m pe 0, Blk b5 (.cells #[.int .i64 va, .int .i64 vb, .int .i64 vc, .int .i64 vd, .int .i64 ve, .int .i64 0, .int .i64 0, .int .i64 0, .int .i64 0, .string ⟨#[]⟩, .string ⟨#[]⟩, .string ⟨#[]⟩, .slice none 0 0] 24 (0, 0)), Blk b4 (.cells #[.int .i64 0, .int .i64 0, .int .i64 0, .int .i64 0, .int .i64 0, .int .i64 0, .int .i64 0, .int .i64 0, .int .i64 0, .string ⟨#[]⟩, .string ⟨#[]⟩, .string ⟨#[]⟩, .slice none 0 0] 24 (0, 0)), Blk b2 (.cells #[.int .i64 0, .int .i64 0, .int .i64 0, .int .i64 0, .int .i64 0, .int .i64 0, .int .i64 0, .int .i64 0, .int .i64 0, .string ⟨#[]⟩, .string ⟨#[]⟩, .string ⟨#[]⟩, .slice none 0 0] 24 (0, 0))]) (fun _ h => by (refine St.sub ?_ h; refine .cons .head ?_; refine .cons .head ?_; (with_reducible refine .cons .head ?_); (with_reducible refine .cons .head ?_); exact .nil)) ?_
  obtain ⟨⟨x0, p0, e0⟩, hs0⟩ : ∃ a, oU64 ((hasL ve).contains 105) m pe 0 = a := ⟨_, rfl⟩
  have g0 : p0 ≤ m.length := by have := oU64_at (b := (hasL ve).contains 105) (e := 0) ge; rwa [hs0] at this
  rw [hs0]
  dsimp only
  refine hc_meet (Y := Unit) (fun _ => [(2, .pointer (some ⟨b2, 0, none⟩)), (4, .pointer (some ⟨b4, 0, none⟩)), (5, .pointer (some ⟨b5, 0, none⟩)), (6, .pointer (some ⟨q, 0, none⟩)), (8, .string ⟨(hasL ve).toArray⟩)]) (fun _ => [RRd q m p0 e0, Blk b5 (.cells #[.int .i64 va, .int .i64 vb, .int .i64 vc, .int .i64 vd, .int .i64 ve, .int .i64 x0, .int .i64 0, .int .i64 0, .int .i64 0, .string ⟨#[]⟩, .string ⟨#[]⟩, .string ⟨#[]⟩, .slice none 0 0] 24 (0, 0)), Blk b4 (.cells #[.int .i64 0, .int .i64 0, .int .i64 0, .int .i64 0, .int .i64 0, .int .i64 0, .int .i64 0, .int .i64 0, .int .i64 0, .string ⟨#[]⟩, .string ⟨#[]⟩, .string ⟨#[]⟩, .slice none 0 0] 24 (0, 0)), Blk b2 (.cells #[.int .i64 0, .int .i64 0, .int .i64 0, .int .i64 0, .int .i64 0, .int .i64 0, .int .i64 0, .int .i64 0, .int .i64 0, .string ⟨#[]⟩, .string ⟨#[]⟩, .string ⟨#[]⟩, .slice none 0 0] 24 (0, 0))]) (fun _ => True) ?_ ?_
  · obtain ⟨b, hb⟩ := hcat 105
    rw [hb] at hs0
    (refine Zw rfl rfl rfl rfl rfl ?_; refine hx_plain rfl ?_)
    refine h_callR rfl rfl rfl rfl rfl rfl EC.out ((in_spec (hasL ve) 105 (hasL_len ve)).reads _) ?_
    rw [hb]
    cases b
    · have h1 := congrArg Prod.fst hs0
      have h2 := congrArg (fun a => a.2.1) hs0
      have h3 := congrArg (fun a => a.2.2) hs0
      dsimp only [oU64, cond_false] at h1 h2 h3
      subst h1 h2 h3
      (refine Zt ?_; refine hc_condF rfl ?_; refine hc_skip ?_)
      exact hq_met () trivial (.cons rfl (.cons rfl (.cons rfl (.cons rfl (.cons rfl .nil))))) (fun _ h => h)
    · have hs' : U64R m pe 0 mst64 = (x0, p0, e0) := hs0
      (refine Zt ?_; refine hc_condT rfl ?_; refine hc_lex ?_; refine Zm rfl rfl rfl rfl rfl ?_; refine hx_plain rfl ?_)
      refine h_call rfl rfl rfl rfl rfl rfl rfl rfl EC.out (.cons .head .nil) (ru64_spec q m pe 0 hmb (by omega) ge mst64) ?_
      rintro u M ⟨rfl, rfl⟩
      rw [hs']
      (refine Zf rfl rfl rfl rfl rfl ?_; refine hx_plain rfl ?_; refine h_store rfl rfl rfl rfl rfl rfl IC.size (.tail .head) rfl rfl (Nat.le_of_ble_eq_true rfl) (List.all_eq_true.1 rfl) ?_; refine hx_nil ?_)
      exact hq_met () trivial (.cons rfl (.cons rfl (.cons rfl (.cons rfl (.cons rfl .nil))))) (fun _ h => by (refine St.sub ?_ h; (with_reducible refine .cons (.tail .head) ?_); (with_reducible refine .cons .head ?_); (with_reducible refine .cons .head ?_); (with_reducible refine .cons .head ?_); exact .nil))
  rintro ⟨⟩ _
  obtain ⟨⟨x1, p1, e1⟩, hs1⟩ : ∃ a, oU32 ((hasL ve).contains 111) m p0 e0 = a := ⟨_, rfl⟩
  have g1 : p1 ≤ m.length := by have := oU32_at (b := (hasL ve).contains 111) (e := e0) g0; rwa [hs1] at this
  rw [hs1]
  dsimp only
  refine hc_meet (Y := Unit) (fun _ => [(2, .pointer (some ⟨b2, 0, none⟩)), (4, .pointer (some ⟨b4, 0, none⟩)), (5, .pointer (some ⟨b5, 0, none⟩)), (6, .pointer (some ⟨q, 0, none⟩)), (8, .string ⟨(hasL ve).toArray⟩)]) (fun _ => [RRd q m p1 e1, Blk b5 (.cells #[.int .i64 va, .int .i64 vb, .int .i64 vc, .int .i64 vd, .int .i64 ve, .int .i64 x0, .int .i64 0, .int .i64 x1, .int .i64 0, .string ⟨#[]⟩, .string ⟨#[]⟩, .string ⟨#[]⟩, .slice none 0 0] 24 (0, 0)), Blk b4 (.cells #[.int .i64 0, .int .i64 0, .int .i64 0, .int .i64 0, .int .i64 0, .int .i64 0, .int .i64 0, .int .i64 0, .int .i64 0, .string ⟨#[]⟩, .string ⟨#[]⟩, .string ⟨#[]⟩, .slice none 0 0] 24 (0, 0)), Blk b2 (.cells #[.int .i64 0, .int .i64 0, .int .i64 0, .int .i64 0, .int .i64 0, .int .i64 0, .int .i64 0, .int .i64 0, .int .i64 0, .string ⟨#[]⟩, .string ⟨#[]⟩, .string ⟨#[]⟩, .slice none 0 0] 24 (0, 0))]) (fun _ => True) ?_ ?_
  · obtain ⟨b, hb⟩ := hcat 111
    rw [hb] at hs1
    (refine Zw rfl rfl rfl rfl rfl ?_; refine hx_plain rfl ?_)
    refine h_callR rfl rfl rfl rfl rfl rfl EC.out ((in_spec (hasL ve) 111 (hasL_len ve)).reads _) ?_
    rw [hb]
    cases b
    · have h1 := congrArg Prod.fst hs1
      have h2 := congrArg (fun a => a.2.1) hs1
      have h3 := congrArg (fun a => a.2.2) hs1
      dsimp only [oU32, cond_false] at h1 h2 h3
      subst h1 h2 h3
      (refine Zt ?_; refine hc_condF rfl ?_; refine hc_skip ?_)
      exact hq_met () trivial (.cons rfl (.cons rfl (.cons rfl (.cons rfl (.cons rfl .nil))))) (fun _ h => h)
    · have hs' : U32R m p0 e0 mst32 = (x1, p1, e1) := hs1
      (refine Zt ?_; refine hc_condT rfl ?_; refine hc_lex ?_; refine Zm rfl rfl rfl rfl rfl ?_; refine hx_plain rfl ?_)
      refine h_call rfl rfl rfl rfl rfl rfl rfl rfl EC.out (.cons .head .nil) (ru32_spec q m p0 e0 hmb (by omega) g0 mst32 (by decide)) ?_
      rintro u M ⟨rfl, rfl⟩
      rw [hs']
      (refine Zf rfl rfl rfl rfl rfl ?_; refine hx_plain rfl ?_; refine h_store rfl rfl rfl rfl rfl rfl IC.size (.tail .head) rfl rfl (Nat.le_of_ble_eq_true rfl) (List.all_eq_true.1 rfl) ?_; refine hx_nil ?_)
      exact hq_met () trivial (.cons rfl (.cons rfl (.cons rfl (.cons rfl (.cons rfl .nil))))) (fun _ h => by (refine St.sub ?_ h; (with_reducible refine .cons (.tail .head) ?_); (with_reducible refine .cons .head ?_); (with_reducible refine .cons .head ?_); (with_reducible refine .cons .head ?_); exact .nil))
  rintro ⟨⟩ _
  obtain ⟨⟨x2, p2, e2⟩, hs2⟩ : ∃ a, oU32 ((hasL ve).contains 108) m p1 e1 = a := ⟨_, rfl⟩
  have g2 : p2 ≤ m.length := by have := oU32_at (b := (hasL ve).contains 108) (e := e1) g1; rwa [hs2] at this
  rw [hs2]
  dsimp only
  refine hc_meet (Y := Unit) (fun _ => [(2, .pointer (some ⟨b2, 0, none⟩)), (4, .pointer (some ⟨b4, 0, none⟩)), (5, .pointer (some ⟨b5, 0, none⟩)), (6, .pointer (some ⟨q, 0, none⟩)), (8, .string ⟨(hasL ve).toArray⟩)]) (fun _ => [RRd q m p2 e2, Blk b5 (.cells #[.int .i64 va, .int .i64 vb, .int .i64 vc, .int .i64 vd, .int .i64 ve, .int .i64 x0, .int .i64 0, .int .i64 x1, .int .i64 x2, .string ⟨#[]⟩, .string ⟨#[]⟩, .string ⟨#[]⟩, .slice none 0 0] 24 (0, 0)), Blk b4 (.cells #[.int .i64 0, .int .i64 0, .int .i64 0, .int .i64 0, .int .i64 0, .int .i64 0, .int .i64 0, .int .i64 0, .int .i64 0, .string ⟨#[]⟩, .string ⟨#[]⟩, .string ⟨#[]⟩, .slice none 0 0] 24 (0, 0)), Blk b2 (.cells #[.int .i64 0, .int .i64 0, .int .i64 0, .int .i64 0, .int .i64 0, .int .i64 0, .int .i64 0, .int .i64 0, .int .i64 0, .string ⟨#[]⟩, .string ⟨#[]⟩, .string ⟨#[]⟩, .slice none 0 0] 24 (0, 0))]) (fun _ => True) ?_ ?_
  · obtain ⟨b, hb⟩ := hcat 108
    rw [hb] at hs2
    (refine Zw rfl rfl rfl rfl rfl ?_; refine hx_plain rfl ?_)
    refine h_callR rfl rfl rfl rfl rfl rfl EC.out ((in_spec (hasL ve) 108 (hasL_len ve)).reads _) ?_
    rw [hb]
    cases b
    · have h1 := congrArg Prod.fst hs2
      have h2 := congrArg (fun a => a.2.1) hs2
      have h3 := congrArg (fun a => a.2.2) hs2
      dsimp only [oU32, cond_false] at h1 h2 h3
      subst h1 h2 h3
      (refine Zt ?_; refine hc_condF rfl ?_; refine hc_skip ?_)
      exact hq_met () trivial (.cons rfl (.cons rfl (.cons rfl (.cons rfl (.cons rfl .nil))))) (fun _ h => h)
    · have hs' : U32R m p1 e1 mst32 = (x2, p2, e2) := hs2
      (refine Zt ?_; refine hc_condT rfl ?_; refine hc_lex ?_; refine Zm rfl rfl rfl rfl rfl ?_; refine hx_plain rfl ?_)
      refine h_call rfl rfl rfl rfl rfl rfl rfl rfl EC.out (.cons .head .nil) (ru32_spec q m p1 e1 hmb (by omega) g1 mst32 (by decide)) ?_
      rintro u M ⟨rfl, rfl⟩
      rw [hs']
      (refine Zf rfl rfl rfl rfl rfl ?_; refine hx_plain rfl ?_; refine h_store rfl rfl rfl rfl rfl rfl IC.size (.tail .head) rfl rfl (Nat.le_of_ble_eq_true rfl) (List.all_eq_true.1 rfl) ?_; refine hx_nil ?_)
      exact hq_met () trivial (.cons rfl (.cons rfl (.cons rfl (.cons rfl (.cons rfl .nil))))) (fun _ h => by (refine St.sub ?_ h; (with_reducible refine .cons (.tail .head) ?_); (with_reducible refine .cons .head ?_); (with_reducible refine .cons .head ?_); (with_reducible refine .cons .head ?_); exact .nil))
  rintro ⟨⟩ _
  obtain ⟨⟨x3, p3, e3⟩, hs3⟩ : ∃ a, oTx ((hasL ve).contains 112) 384 m p2 e2 = a := ⟨_, rfl⟩
  have g3 : p3 ≤ m.length := by have := oTx_at (b := (hasL ve).contains 112) (e := e2) (most := 384) g2; rwa [hs3] at this
  have l3 : x3.length ≤ m.length := by have := oTx_len (b := (hasL ve).contains 112) (most := 384) (m := m) (p := p2) (e := e2); rwa [hs3] at this
  rw [hs3]
  dsimp only
  refine hc_meet (Y := Unit) (fun _ => [(2, .pointer (some ⟨b2, 0, none⟩)), (4, .pointer (some ⟨b4, 0, none⟩)), (5, .pointer (some ⟨b5, 0, none⟩)), (6, .pointer (some ⟨q, 0, none⟩)), (8, .string ⟨(hasL ve).toArray⟩)]) (fun _ => [RRd q m p3 e3, Blk b5 (.cells #[.int .i64 va, .int .i64 vb, .int .i64 vc, .int .i64 vd, .int .i64 ve, .int .i64 x0, .int .i64 0, .int .i64 x1, .int .i64 x2, .string (strOf x3), .string ⟨#[]⟩, .string ⟨#[]⟩, .slice none 0 0] 24 (0, 0)), Blk b4 (.cells #[.int .i64 0, .int .i64 0, .int .i64 0, .int .i64 0, .int .i64 0, .int .i64 0, .int .i64 0, .int .i64 0, .int .i64 0, .string ⟨#[]⟩, .string ⟨#[]⟩, .string ⟨#[]⟩, .slice none 0 0] 24 (0, 0)), Blk b2 (.cells #[.int .i64 0, .int .i64 0, .int .i64 0, .int .i64 0, .int .i64 0, .int .i64 0, .int .i64 0, .int .i64 0, .int .i64 0, .string ⟨#[]⟩, .string ⟨#[]⟩, .string ⟨#[]⟩, .slice none 0 0] 24 (0, 0))]) (fun _ => True) ?_ ?_
  · obtain ⟨b, hb⟩ := hcat 112
    rw [hb] at hs3
    (refine Zw rfl rfl rfl rfl rfl ?_; refine hx_plain rfl ?_)
    refine h_callR rfl rfl rfl rfl rfl rfl EC.out ((in_spec (hasL ve) 112 (hasL_len ve)).reads _) ?_
    rw [hb]
    cases b
    · have h1 := congrArg Prod.fst hs3
      have h2 := congrArg (fun a => a.2.1) hs3
      have h3 := congrArg (fun a => a.2.2) hs3
      dsimp only [oTx, cond_false] at h1 h2 h3
      subst h1 h2 h3
      (refine Zt ?_; refine hc_condF rfl ?_; refine hc_skip ?_)
      exact hq_met () trivial (.cons rfl (.cons rfl (.cons rfl (.cons rfl (.cons rfl .nil))))) (fun _ h => h)
    · have hs' : BodyR m p2 e2 384 = (x3, p3, e3) := hs3
      (refine Zt ?_; refine hc_condT rfl ?_; refine hc_lex ?_; refine Zm rfl rfl rfl rfl rfl ?_; refine hx_plain rfl ?_)
      refine h_call rfl rfl rfl rfl rfl rfl rfl rfl EC.out (.cons .head .nil) (rtext_spec q m p2 e2 hmb (by omega) g2 384 (by decide)) ?_
      rintro u M ⟨rfl, rfl⟩
      rw [hs']
      (refine Zf rfl rfl rfl rfl rfl ?_; refine hx_plain rfl ?_; refine h_store rfl rfl rfl rfl rfl rfl IC.size (.tail .head) rfl rfl (Nat.le_of_ble_eq_true rfl) (List.all_eq_true.1 rfl) ?_; refine hx_nil ?_)
      exact hq_met () trivial (.cons rfl (.cons rfl (.cons rfl (.cons rfl (.cons rfl .nil))))) (fun _ h => by (refine St.sub ?_ h; (with_reducible refine .cons (.tail .head) ?_); (with_reducible refine .cons .head ?_); (with_reducible refine .cons .head ?_); (with_reducible refine .cons .head ?_); exact .nil))
  rintro ⟨⟩ _
  obtain ⟨⟨x4, p4, e4⟩, hs4⟩ : ∃ a, oTx ((hasL ve).contains 110) 23 m p3 e3 = a := ⟨_, rfl⟩
  have g4 : p4 ≤ m.length := by have := oTx_at (b := (hasL ve).contains 110) (e := e3) (most := 23) g3; rwa [hs4] at this
  have l4 : x4.length ≤ m.length := by have := oTx_len (b := (hasL ve).contains 110) (most := 23) (m := m) (p := p3) (e := e3); rwa [hs4] at this
  rw [hs4]
  dsimp only
  refine hc_meet (Y := Unit) (fun _ => [(2, .pointer (some ⟨b2, 0, none⟩)), (4, .pointer (some ⟨b4, 0, none⟩)), (5, .pointer (some ⟨b5, 0, none⟩)), (6, .pointer (some ⟨q, 0, none⟩)), (8, .string ⟨(hasL ve).toArray⟩)]) (fun _ => [RRd q m p4 e4, Blk b5 (.cells #[.int .i64 va, .int .i64 vb, .int .i64 vc, .int .i64 vd, .int .i64 ve, .int .i64 x0, .int .i64 0, .int .i64 x1, .int .i64 x2, .string (strOf x3), .string (strOf x4), .string ⟨#[]⟩, .slice none 0 0] 24 (0, 0)), Blk b4 (.cells #[.int .i64 0, .int .i64 0, .int .i64 0, .int .i64 0, .int .i64 0, .int .i64 0, .int .i64 0, .int .i64 0, .int .i64 0, .string ⟨#[]⟩, .string ⟨#[]⟩, .string ⟨#[]⟩, .slice none 0 0] 24 (0, 0)), Blk b2 (.cells #[.int .i64 0, .int .i64 0, .int .i64 0, .int .i64 0, .int .i64 0, .int .i64 0, .int .i64 0, .int .i64 0, .int .i64 0, .string ⟨#[]⟩, .string ⟨#[]⟩, .string ⟨#[]⟩, .slice none 0 0] 24 (0, 0))]) (fun _ => True) ?_ ?_
  · obtain ⟨b, hb⟩ := hcat 110
    rw [hb] at hs4
    (refine Zw rfl rfl rfl rfl rfl ?_; refine hx_plain rfl ?_)
    refine h_callR rfl rfl rfl rfl rfl rfl EC.out ((in_spec (hasL ve) 110 (hasL_len ve)).reads _) ?_
    rw [hb]
    cases b
    · have h1 := congrArg Prod.fst hs4
      have h2 := congrArg (fun a => a.2.1) hs4
      have h3 := congrArg (fun a => a.2.2) hs4
      dsimp only [oTx, cond_false] at h1 h2 h3
      subst h1 h2 h3
      (refine Zt ?_; refine hc_condF rfl ?_; refine hc_skip ?_)
      exact hq_met () trivial (.cons rfl (.cons rfl (.cons rfl (.cons rfl (.cons rfl .nil))))) (fun _ h => h)
    · have hs' : BodyR m p3 e3 23 = (x4, p4, e4) := hs4
      (refine Zt ?_; refine hc_condT rfl ?_; refine hc_lex ?_; refine Zm rfl rfl rfl rfl rfl ?_; refine hx_plain rfl ?_)
      refine h_call rfl rfl rfl rfl rfl rfl rfl rfl EC.out (.cons .head .nil) (rtext_spec q m p3 e3 hmb (by omega) g3 23 (by decide)) ?_
      rintro u M ⟨rfl, rfl⟩
      rw [hs']
      (refine Zf rfl rfl rfl rfl rfl ?_; refine hx_plain rfl ?_; refine h_store rfl rfl rfl rfl rfl rfl IC.size (.tail .head) rfl rfl (Nat.le_of_ble_eq_true rfl) (List.all_eq_true.1 rfl) ?_; refine hx_nil ?_)
      exact hq_met () trivial (.cons rfl (.cons rfl (.cons rfl (.cons rfl (.cons rfl .nil))))) (fun _ h => by (refine St.sub ?_ h; (with_reducible refine .cons (.tail .head) ?_); (with_reducible refine .cons .head ?_); (with_reducible refine .cons .head ?_); (with_reducible refine .cons .head ?_); exact .nil))
  rintro ⟨⟩ _
  obtain ⟨⟨x5, p5, e5⟩, hs5⟩ : ∃ a, oU64 ((hasL ve).contains 106) m p4 e4 = a := ⟨_, rfl⟩
  have g5 : p5 ≤ m.length := by have := oU64_at (b := (hasL ve).contains 106) (e := e4) g4; rwa [hs5] at this
  rw [hs5]
  dsimp only
  refine hc_meet (Y := Unit) (fun _ => [(2, .pointer (some ⟨b2, 0, none⟩)), (4, .pointer (some ⟨b4, 0, none⟩)), (5, .pointer (some ⟨b5, 0, none⟩)), (6, .pointer (some ⟨q, 0, none⟩)), (8, .string ⟨(hasL ve).toArray⟩)]) (fun _ => [RRd q m p5 e5, Blk b5 (.cells #[.int .i64 va, .int .i64 vb, .int .i64 vc, .int .i64 vd, .int .i64 ve, .int .i64 x0, .int .i64 x5, .int .i64 x1, .int .i64 x2, .string (strOf x3), .string (strOf x4), .string ⟨#[]⟩, .slice none 0 0] 24 (0, 0)), Blk b4 (.cells #[.int .i64 0, .int .i64 0, .int .i64 0, .int .i64 0, .int .i64 0, .int .i64 0, .int .i64 0, .int .i64 0, .int .i64 0, .string ⟨#[]⟩, .string ⟨#[]⟩, .string ⟨#[]⟩, .slice none 0 0] 24 (0, 0)), Blk b2 (.cells #[.int .i64 0, .int .i64 0, .int .i64 0, .int .i64 0, .int .i64 0, .int .i64 0, .int .i64 0, .int .i64 0, .int .i64 0, .string ⟨#[]⟩, .string ⟨#[]⟩, .string ⟨#[]⟩, .slice none 0 0] 24 (0, 0))]) (fun _ => True) ?_ ?_
  · obtain ⟨b, hb⟩ := hcat 106
    rw [hb] at hs5
    (refine Zw rfl rfl rfl rfl rfl ?_; refine hx_plain rfl ?_)
    refine h_callR rfl rfl rfl rfl rfl rfl EC.out ((in_spec (hasL ve) 106 (hasL_len ve)).reads _) ?_
    rw [hb]
    cases b
    · have h1 := congrArg Prod.fst hs5
      have h2 := congrArg (fun a => a.2.1) hs5
      have h3 := congrArg (fun a => a.2.2) hs5
      dsimp only [oU64, cond_false] at h1 h2 h3
      subst h1 h2 h3
      (refine Zt ?_; refine hc_condF rfl ?_; refine hc_skip ?_)
      exact hq_met () trivial (.cons rfl (.cons rfl (.cons rfl (.cons rfl (.cons rfl .nil))))) (fun _ h => h)
    · have hs' : U64R m p4 e4 mst64 = (x5, p5, e5) := hs5
      (refine Zt ?_; refine hc_condT rfl ?_; refine hc_lex ?_; refine Zm rfl rfl rfl rfl rfl ?_; refine hx_plain rfl ?_)
      refine h_call rfl rfl rfl rfl rfl rfl rfl rfl EC.out (.cons .head .nil) (ru64_spec q m p4 e4 hmb (by omega) g4 mst64) ?_
      rintro u M ⟨rfl, rfl⟩
      rw [hs']
      (refine Zf rfl rfl rfl rfl rfl ?_; refine hx_plain rfl ?_; refine h_store rfl rfl rfl rfl rfl rfl IC.size (.tail .head) rfl rfl (Nat.le_of_ble_eq_true rfl) (List.all_eq_true.1 rfl) ?_; refine hx_nil ?_)
      exact hq_met () trivial (.cons rfl (.cons rfl (.cons rfl (.cons rfl (.cons rfl .nil))))) (fun _ h => by (refine St.sub ?_ h; (with_reducible refine .cons (.tail .head) ?_); (with_reducible refine .cons .head ?_); (with_reducible refine .cons .head ?_); (with_reducible refine .cons .head ?_); exact .nil))
  rintro ⟨⟩ _
  obtain ⟨⟨x6, p6, e6⟩, hs6⟩ : ∃ a, oTx ((hasL ve).contains 109) 23 m p5 e5 = a := ⟨_, rfl⟩
  have g6 : p6 ≤ m.length := by have := oTx_at (b := (hasL ve).contains 109) (e := e5) (most := 23) g5; rwa [hs6] at this
  have l6 : x6.length ≤ m.length := by have := oTx_len (b := (hasL ve).contains 109) (most := 23) (m := m) (p := p5) (e := e5); rwa [hs6] at this
  rw [hs6]
  dsimp only
  refine hc_meet (Y := Unit) (fun _ => [(2, .pointer (some ⟨b2, 0, none⟩)), (4, .pointer (some ⟨b4, 0, none⟩)), (5, .pointer (some ⟨b5, 0, none⟩)), (6, .pointer (some ⟨q, 0, none⟩)), (8, .string ⟨(hasL ve).toArray⟩)]) (fun _ => [RRd q m p6 e6, Blk b5 (.cells #[.int .i64 va, .int .i64 vb, .int .i64 vc, .int .i64 vd, .int .i64 ve, .int .i64 x0, .int .i64 x5, .int .i64 x1, .int .i64 x2, .string (strOf x3), .string (strOf x4), .string (strOf x6), .slice none 0 0] 24 (0, 0)), Blk b4 (.cells #[.int .i64 0, .int .i64 0, .int .i64 0, .int .i64 0, .int .i64 0, .int .i64 0, .int .i64 0, .int .i64 0, .int .i64 0, .string ⟨#[]⟩, .string ⟨#[]⟩, .string ⟨#[]⟩, .slice none 0 0] 24 (0, 0)), Blk b2 (.cells #[.int .i64 0, .int .i64 0, .int .i64 0, .int .i64 0, .int .i64 0, .int .i64 0, .int .i64 0, .int .i64 0, .int .i64 0, .string ⟨#[]⟩, .string ⟨#[]⟩, .string ⟨#[]⟩, .slice none 0 0] 24 (0, 0))]) (fun _ => True) ?_ ?_
  · obtain ⟨b, hb⟩ := hcat 109
    rw [hb] at hs6
    (refine Zw rfl rfl rfl rfl rfl ?_; refine hx_plain rfl ?_)
    refine h_callR rfl rfl rfl rfl rfl rfl EC.out ((in_spec (hasL ve) 109 (hasL_len ve)).reads _) ?_
    rw [hb]
    cases b
    · have h1 := congrArg Prod.fst hs6
      have h2 := congrArg (fun a => a.2.1) hs6
      have h3 := congrArg (fun a => a.2.2) hs6
      dsimp only [oTx, cond_false] at h1 h2 h3
      subst h1 h2 h3
      (refine Zt ?_; refine hc_condF rfl ?_; refine hc_skip ?_)
      exact hq_met () trivial (.cons rfl (.cons rfl (.cons rfl (.cons rfl (.cons rfl .nil))))) (fun _ h => h)
    · have hs' : BodyR m p5 e5 23 = (x6, p6, e6) := hs6
      (refine Zt ?_; refine hc_condT rfl ?_; refine hc_lex ?_; refine Zm rfl rfl rfl rfl rfl ?_; refine hx_plain rfl ?_)
      refine h_call rfl rfl rfl rfl rfl rfl rfl rfl EC.out (.cons .head .nil) (rtext_spec q m p5 e5 hmb (by omega) g5 23 (by decide)) ?_
      rintro u M ⟨rfl, rfl⟩
      rw [hs']
      (refine Zf rfl rfl rfl rfl rfl ?_; refine hx_plain rfl ?_; refine h_store rfl rfl rfl rfl rfl rfl IC.size (.tail .head) rfl rfl (Nat.le_of_ble_eq_true rfl) (List.all_eq_true.1 rfl) ?_; refine hx_nil ?_)
      exact hq_met () trivial (.cons rfl (.cons rfl (.cons rfl (.cons rfl (.cons rfl .nil))))) (fun _ h => by (refine St.sub ?_ h; (with_reducible refine .cons (.tail .head) ?_); (with_reducible refine .cons .head ?_); (with_reducible refine .cons .head ?_); (with_reducible refine .cons .head ?_); exact .nil))
  rintro ⟨⟩ _
  obtain ⟨⟨x7, p7, e7⟩, hs7⟩ : ∃ a, oTx ((hasL ve).contains 100) 1024 m p6 e6 = a := ⟨_, rfl⟩
  have g7 : p7 ≤ m.length := by have := oTx_at (b := (hasL ve).contains 100) (e := e6) (most := 1024) g6; rwa [hs7] at this
  have l7 : x7.length ≤ m.length := by have := oTx_len (b := (hasL ve).contains 100) (most := 1024) (m := m) (p := p6) (e := e6); rwa [hs7] at this
  rw [hs7]
  dsimp only
  refine hc_meet (Y := SlV) (fun _ => [(2, .pointer (some ⟨b2, 0, none⟩)), (4, .pointer (some ⟨b4, 0, none⟩)), (5, .pointer (some ⟨b5, 0, none⟩)), (6, .pointer (some ⟨q, 0, none⟩)), (8, .string ⟨(hasL ve).toArray⟩)]) (fun sl => [RRd q m p7 e7, Blk b5 (.cells #[.int .i64 va, .int .i64 vb, .int .i64 vc, .int .i64 vd, .int .i64 ve, .int .i64 x0, .int .i64 x5, .int .i64 x1, .int .i64 x2, .string (strOf x3), .string (strOf x4), .string (strOf x6), sl.v] 24 (0, 0)), RowV byteE 5 sl.v x7, Blk b4 (.cells #[.int .i64 0, .int .i64 0, .int .i64 0, .int .i64 0, .int .i64 0, .int .i64 0, .int .i64 0, .int .i64 0, .int .i64 0, .string ⟨#[]⟩, .string ⟨#[]⟩, .string ⟨#[]⟩, .slice none 0 0] 24 (0, 0)), Blk b2 (.cells #[.int .i64 0, .int .i64 0, .int .i64 0, .int .i64 0, .int .i64 0, .int .i64 0, .int .i64 0, .int .i64 0, .int .i64 0, .string ⟨#[]⟩, .string ⟨#[]⟩, .string ⟨#[]⟩, .slice none 0 0] 24 (0, 0))]) (fun sl => sl.len = x7.length) ?_ ?_
  · obtain ⟨b, hb⟩ := hcat 100
    rw [hb] at hs7
    (refine Zw rfl rfl rfl rfl rfl ?_; refine hx_plain rfl ?_)
    refine h_callR rfl rfl rfl rfl rfl rfl EC.out ((in_spec (hasL ve) 100 (hasL_len ve)).reads _) ?_
    rw [hb]
    cases b
    · have h1 := congrArg Prod.fst hs7
      have h2 := congrArg (fun a => a.2.1) hs7
      have h3 := congrArg (fun a => a.2.2) hs7
      dsimp only [oTx, cond_false] at h1 h2 h3
      subst h1 h2 h3
      (refine Zt ?_; refine hc_condF rfl ?_; refine hc_skip ?_)
      exact hq_met ⟨none, 0, 0⟩ rfl (.cons rfl (.cons rfl (.cons rfl (.cons rfl (.cons rfl .nil))))) (fun _ h => (St.rowV_nil (E := byteE) (T := 5) h).sub (.cons (.tail .head) (.cons (.tail .head) (.cons .head (.cons .head (.cons .head .nil))))))
    · have hs' : BodyR m p6 e6 1024 = (x7, p7, e7) := hs7
      (refine Zt ?_; refine hc_condT rfl ?_; refine hc_lex ?_; refine Zm rfl rfl rfl rfl rfl ?_; refine hx_plain rfl ?_)
      refine h_callB (.refl _ _) (fun _ h => h.elim) rfl rfl rfl rfl rfl rfl rfl rfl EC.out (.cons .head .nil) ((rbytes_spec q m p6 e6 hmb (by omega) g6 1024 (by decide)).toB.know (φ := fun u => ∃ a c, u = .slice a (BodyR m p6 e6 1024).1.length c) (fun v M w0 F w hp hst => by subst hp; exact St.rowV_shapeS hst .head)) ?_
      rintro u M ⟨⟨a1, c1, rfl⟩, rfl⟩
      rw [hs']
      (refine Zf rfl rfl rfl rfl rfl ?_; refine hx_plain rfl ?_; refine h_store rfl rfl rfl rfl rfl rfl IC.size (.tail (.tail .head)) rfl rfl (Nat.le_of_ble_eq_true rfl) (List.all_eq_true.1 rfl) ?_; refine hx_nil ?_)
      exact hq_met ⟨a1, x7.length, c1⟩ rfl (.cons rfl (.cons rfl (.cons rfl (.cons rfl (.cons rfl .nil))))) (fun _ h => by (refine St.sub ?_ h; (with_reducible refine .cons (.tail (.tail .head)) ?_); (with_reducible refine .cons .head ?_); (with_reducible refine .cons .head ?_); (with_reducible refine .cons .head ?_); (with_reducible refine .cons .head ?_); exact .nil))
  rintro ⟨sa, sn, sc⟩ hsl
  dsimp only at hsl
  subst hsl
  (refine Zw rfl rfl rfl rfl rfl ?_; refine hx_plain rfl ?_)
  refine h_call rfl rfl rfl rfl rfl rfl rfl rfl EC.out (.cons .head .nil) (rclose_spec q m p7 e7) ?_
  rintro u M ⟨rfl, rfl⟩
  obtain ⟨ce, hce⟩ : ∃ c, CloseR m p7 e7 = c := ⟨_, rfl⟩
  rw [hce]
  by_cases q4 : ce = 0
  case neg =>
    rw [finQ_close (y := ⟨⟨va, vb, vc, vd, ve, x0, x5, x1, x2, strOf x3, strOf x4, strOf x6, ⟨none, 0, 0⟩⟩, x7, p7, e7⟩) (c := ce) hce q4]
    (refine Zn rfl rfl rfl rfl rfl ?_; refine hc_seq ?_; refine Zw rfl rfl rfl rfl rfl ?_; refine Zc rfl rfl rfl rfl rfl rfl rfl ?_; refine Zt ?_; refine hc_condDT rfl (by omega) ?_; refine Zl rfl ?_)
    refine h_loadP (cs' := #[.int .i64 0, .int .i64 0, .int .i64 0, .int .i64 0, .int .i64 0, .int .i64 0, .int .i64 0, .int .i64 0, .int .i64 0, .string ⟨#[]⟩, .string ⟨#[]⟩, .string ⟨#[]⟩, .slice none 0 0]) rfl rfl UC.out rfl IC.size (.tail (.tail (.tail .head))) rfl (by kernel_rfl) rfl rfl ?_
    (refine Zm rfl rfl rfl rfl rfl ?_; refine hx_plain rfl ?_; refine h_storeAll rfl rfl rfl rfl rfl rfl IC.size (.tail (.tail (.tail (.tail .head)))) rfl rfl rfl (List.all_eq_true.1 rfl) ?_; refine Zn rfl rfl rfl rfl rfl ?_; refine hc_ret ?_; refine hq_ret_then ?_)
    exact hq_R2 (.inr rfl) rfl (rv_cell rfl .head UC.out rfl IC.size) (rv_tmp rfl) ⟨none, 0, rfl, rfl⟩ (fun _ h => St.rowV_nil h.emp)
  subst q4
  obtain ⟨R, hR⟩ : ∃ R : ReqV, R = ⟨va, vb, vc, vd, ve, x0, x5, x1, x2, strOf x3, strOf x4, strOf x6, ⟨sa, x7.length, sc⟩⟩ := ⟨_, rfl⟩
  have hRh : R.head = 0 := by rw [hxh] at q3; rw [hR]; exact q3
  have hRo : 1 ≤ R.op ∧ R.op ≤ 10 := by rw [hR]; exact ho
  have hRs : R.path.size ≤ 1048576 := by rw [hR]; show (strOf x3).size ≤ _; rw [strOf_size]; omega
  have hchk : ReqV.chk ⟨va, vb, vc, vd, ve, x0, x5, x1, x2, strOf x3, strOf x4, strOf x6, ⟨none, x7.length, 0⟩⟩ = if R.good = true then 0 else 46 := by
    have h1 := R.chk_dv ⟨none, x7.length, 0⟩ (by rw [hR])
    have h2 : R.chk = if R.good = true then 0 else 46 := by unfold ReqV.chk; rw [if_pos hRh]
    rw [← h2, ← h1, hR]
  (refine Zn rfl rfl rfl rfl rfl ?_; refine hc_seq ?_; refine Zw rfl rfl rfl rfl rfl ?_; refine Zc rfl rfl rfl rfl rfl rfl rfl ?_; refine Zt ?_; refine hc_condF rfl ?_; refine hc_skip ?_; refine hq_then ?_; refine Zl rfl ?_)
  refine h_loadP (cs' := #[.int .i64 va, .int .i64 vb, .int .i64 vc, .int .i64 vd, .int .i64 ve, .int .i64 x0, .int .i64 x5, .int .i64 x1, .int .i64 x2, .string (strOf x3), .string (strOf x4), .string (strOf x6), .slice sa x7.length sc]) rfl rfl UC.out rfl IC.size (.tail .head) rfl (by kernel_rfl) rfl rfl ?_
  (refine hx_plain rfl ?_)
  refine h_callRd (v := .int .i64 (if R.good = true then 0 else 46)) rfl rfl rfl rfl rfl rfl EC.out (fun w' h => by have := rfields_reads (w := w') R hRo hRs; rw [hR] at this ⊢; exact this) ?_
  cases hg : R.good with
  | false =>
    rw [hg, if_neg Bool.false_ne_true] at hchk
    rw [finQ_chk (y := ⟨⟨va, vb, vc, vd, ve, x0, x5, x1, x2, strOf x3, strOf x4, strOf x6, ⟨none, 0, 0⟩⟩, x7, p7, e7⟩) (c := 46) hce hchk (by decide), if_neg Bool.false_ne_true]
    (refine Zn rfl rfl rfl rfl rfl ?_; refine hc_seq ?_; refine Zw rfl rfl rfl rfl rfl ?_; refine Zc rfl rfl rfl rfl rfl rfl rfl ?_; refine Zt ?_; refine hc_condT rfl ?_; refine Zl rfl ?_)
    refine h_loadP (cs' := #[.int .i64 0, .int .i64 0, .int .i64 0, .int .i64 0, .int .i64 0, .int .i64 0, .int .i64 0, .int .i64 0, .int .i64 0, .string ⟨#[]⟩, .string ⟨#[]⟩, .string ⟨#[]⟩, .slice none 0 0]) rfl rfl UC.out rfl IC.size (.tail (.tail (.tail .head))) rfl (by kernel_rfl) rfl rfl ?_
    (refine Zm rfl rfl rfl rfl rfl ?_; refine hx_plain rfl ?_; refine h_storeAll rfl rfl rfl rfl rfl rfl IC.size (.tail (.tail (.tail (.tail .head)))) rfl rfl rfl (List.all_eq_true.1 rfl) ?_; refine Zn rfl rfl rfl rfl rfl ?_; refine hc_ret ?_; refine hq_ret_then ?_)
    exact hq_R2 (.inr rfl) rfl (rv_cell rfl .head UC.out rfl IC.size) (rv_tmp rfl) ⟨none, 0, rfl, rfl⟩ (fun _ h => St.rowV_nil h.emp)
  | true =>
    rw [hg, if_pos rfl] at hchk
    rw [finQ_ok (y := ⟨⟨va, vb, vc, vd, ve, x0, x5, x1, x2, strOf x3, strOf x4, strOf x6, ⟨none, 0, 0⟩⟩, x7, p7, e7⟩) hce hchk, if_pos rfl]
    (refine Zn rfl rfl rfl rfl rfl ?_; refine hc_seq ?_; refine Zw rfl rfl rfl rfl rfl ?_; refine Zc rfl rfl rfl rfl rfl rfl rfl ?_; refine Zt ?_; refine hc_condF rfl ?_; refine hc_skip ?_; refine hq_then ?_; refine Zl rfl ?_)
    refine h_loadP (cs' := #[.int .i64 va, .int .i64 vb, .int .i64 vc, .int .i64 vd, .int .i64 ve, .int .i64 x0, .int .i64 x5, .int .i64 x1, .int .i64 x2, .string (strOf x3), .string (strOf x4), .string (strOf x6), .slice sa x7.length sc]) rfl rfl UC.out rfl IC.size (.tail .head) rfl (by kernel_rfl) rfl rfl ?_
    (refine hx_plain rfl ?_; refine h_storeAll rfl rfl rfl rfl rfl rfl IC.size (.tail (.tail (.tail (.tail .head)))) rfl rfl rfl (List.all_eq_true.1 rfl) ?_; refine Zn rfl rfl rfl rfl rfl ?_; refine hc_ret ?_)
    exact hq_R2 (.inr rfl) rfl (rv_cell rfl .head UC.out rfl IC.size) (rv_tmp rfl) ⟨sa, sc, rfl, rfl⟩ (fun _ h => by (refine St.sub ?_ h; (with_reducible refine .cons (.tail (.tail (.tail .head))) ?_); exact .nil))
end Go.Proofs.YtfolhmlldoepfaaGreatDoor
namespace Go.Proofs.YtfolhmlldoepfaaGreatDoor
open Go Go.Proofs Go.RowKit
set_option maxRecDepth 4000
def oAt (b : Bool) (m : List Int) (p : Nat) (e : Int) : (Int × Int × Int × Int) × Nat × Int :=
  bif b then
    let a := U64R m p e mst64
    let b := U32R m a.2.1 a.2.2 mst32
    let c := U32R m b.2.1 b.2.2 mst32
    let d := U64R m c.2.1 c.2.2 mst64
    ((a.1, b.1, c.1, d.1), d.2.1, d.2.2)
  else ((0, 0, 0, 0), p, e)
theorem oAt_at {b : Bool} {m : List Int} {p : Nat} {e : Int} (h : p ≤ m.length) : (oAt b m p e).2.1 ≤ m.length := by
  cases b
  · exact h
  · exact u64_at (u32_at (u32_at (u64_at h)))
def oLs (b : Bool) (m : List Int) (p : Nat) (e : Int) : List EntV × Bool × Nat × Int :=
  bif b then
    let N := U32R m p e mst32
    let L := entsT m N.1.toNat ([], N.2.1, N.2.2)
    let F := FlagR m L.2.1 L.2.2
    (L.1, F.1, F.2.1, F.2.2)
  else ([], false, p, e)
theorem oLs_at {b : Bool} {m : List Int} {p : Nat} {e : Int} (h : p ≤ m.length) : (oLs b m p e).2.2.1 ≤ m.length := by
  cases b
  · exact h
  · exact flag_at (entsT_at _ (u32_at h))
def ovr (b : Bool) (m : List Int) (p : Nat) (e : Int) : Bool := b && decide (16 < (U32R m p e mst32).1)
def stepsP (m : List Int) (h : UInt8 → Bool) (r : RepV) (p : Nat) (e : Int) : RepV × List Int × List EntV × Int :=
  let A := oAt (h 97) m p e
  let D := oTx (h 100) 1024 m A.2.1 A.2.2
  let L := oLs (h 116) m D.2.1 D.2.2
  if ovr (h 116) m D.2.1 D.2.2 = true then (.z, [], [], 46) else
  finP m ⟨{ r with aid := A.1.1, akind := A.1.2.1, asize := A.1.2.2.1, achange := A.1.2.2.2, more := L.2.1 }, D.1, L.1, L.2.2.1, L.2.2.2, false⟩
theorem stepsP_eq {m : List Int} {va vb vc vd ve : Int} {p : Nat} {e : Int} (ho : 1 ≤ vd ∧ vd ≤ 10) : finP m (takePs m ⟨⟨va, vb, vc, vd, ve, 0, 0, 0, 0, ⟨none, 0, 0⟩, ⟨none, 0, 0⟩, false⟩, [], [], p, e, false⟩ (rpFs' ⟨va, vb, vc, vd, ve, 0, 0, 0, 0, ⟨none, 0, 0⟩, ⟨none, 0, 0⟩, false⟩)) = stepsP m (fun b => (givL ve vd).contains b) ⟨va, vb, vc, vd, ve, 0, 0, 0, 0, ⟨none, 0, 0⟩, ⟨none, 0, 0⟩, false⟩ p e := by
  by_cases hs : ve = 0
  case neg =>
    rw [show givL ve vd = [] from if_neg hs, show rpFs' ⟨va, vb, vc, vd, ve, 0, 0, 0, 0, ⟨none, 0, 0⟩, ⟨none, 0, 0⟩, false⟩ = [] from if_neg hs]
    rfl
  subst hs
  by_cases ht : vd = 10
  case neg =>
    have hc : vd = 1 ∨ vd = 2 ∨ vd = 3 ∨ vd = 4 ∨ vd = 5 ∨ vd = 6 ∨ vd = 7 ∨ vd = 8 ∨ vd = 9 := by omega
    rcases hc with rfl | rfl | rfl | rfl | rfl | rfl | rfl | rfl | rfl
    all_goals rfl
  subst ht
  obtain ⟨X, hX⟩ : ∃ X : TkP, X = ⟨⟨va, vb, vc, 10, 0, 0, 0, 0, 0, ⟨none, 0, 0⟩, ⟨none, 0, 0⟩, false⟩, [], [], p, e, false⟩ := ⟨_, rfl⟩
  show finP m (RpF.take m (RpF.take m ⟨⟨va, vb, vc, 10, 0, 0, 0, 0, 0, ⟨none, 0, 0⟩, ⟨none, 0, 0⟩, false⟩, [], [], p, e, false⟩ .list) .more) = if ovr true m p e = true then (.z, [], [], 46) else finP m ⟨⟨va, vb, vc, 10, 0, 0, 0, 0, 0, ⟨none, 0, 0⟩, ⟨none, 0, 0⟩, (oLs true m p e).2.1⟩, [], (oLs true m p e).1, (oLs true m p e).2.2.1, (oLs true m p e).2.2.2, false⟩
  rw [← hX]
  by_cases h : 16 < (U32R m p e mst32).1
  · rw [if_pos (show ovr true m p e = true by unfold ovr; rw [decide_eq_true h]; rfl)]
    rw [show RpF.take m X .list = ⟨X.r, X.ds, X.es, (U32R m p e mst32).2.1, (U32R m p e mst32).2.2, true⟩ by rw [hX]; exact if_pos h]
    rfl
  · rw [if_neg (show ¬ ovr true m p e = true by unfold ovr; rw [decide_eq_false h]; decide)]
    rw [show RpF.take m X .list = ⟨X.r, X.ds, (entsT m (U32R m p e mst32).1.toNat ([], (U32R m p e mst32).2.1, (U32R m p e mst32).2.2)).1, (entsT m (U32R m p e mst32).1.toNat ([], (U32R m p e mst32).2.1, (U32R m p e mst32).2.2)).2.1, (entsT m (U32R m p e mst32).1.toNat ([], (U32R m p e mst32).2.1, (U32R m p e mst32).2.2)).2.2, false⟩ by rw [hX]; exact if_neg h]
    rw [hX]
    rfl
theorem u32_er {m : List Int} {p : Nat} {e : Int} (h : (U32R m p e mst32).2.2 ≠ 0) : (U32R m p e mst32).1 = 0 := by
  unfold U32R at h ⊢
  split
  · rfl
  · rename_i h1
    rw [if_neg h1] at h
    split
    · rfl
    · rename_i h2
      rw [if_neg h2] at h
      split
      · rename_i h3
        rw [if_pos h3] at h
        exact absurd rfl h
      · rfl
theorem u32_nn {m : List Int} (hb : Byts m) {p : Nat} {e : Int} : 0 ≤ (U32R m p e mst32).1 := by
  unfold U32R
  split
  · exact Int.le_refl 0
  · split
    · exact Int.le_refl 0
    · split
      · exact (N4_eq hb p).2.1
      · exact Int.le_refl 0
theorem finP_close {m : List Int} {y : TkP} {c : Int} (ho : y.ov = false) (hc : CloseR m y.at_ y.er = c) (h : c ≠ 0) : finP m y = (.z, [], [], c) := by
  unfold finP
  rw [if_neg (by rw [ho]; decide), if_pos (by rw [hc]; exact h), hc]
theorem finP_chk {m : List Int} {y : TkP} {c : Int} (ho : y.ov = false) (hc : CloseR m y.at_ y.er = 0) (h : y.fin.chk y.es = c) (h0 : c ≠ 0) : finP m y = (.z, [], [], c) := by
  unfold finP
  rw [if_neg (by rw [ho]; decide), if_neg (fun h => h hc), if_pos (by rw [h]; exact h0), h]
theorem finP_ok {m : List Int} {y : TkP} (ho : y.ov = false) (hc : CloseR m y.at_ y.er = 0) (h : y.fin.chk y.es = 0) : finP m y = (y.fin, y.ds, y.es, 0) := by
  unfold finP
  rw [if_neg (by rw [ho]; decide), if_neg (fun h => h hc), if_neg (fun h2 => h2 h)]
set_option maxHeartbeats 16000000 in
theorem rdecodeReply_makes {w : World} {v : Value} {bs : List Int} (hr : Rd byteE w v bs) (hb : Byts bs) : Makes Tryz.prog 41 [v] w (DecP (decP bs)) := by
  refine makes_of Tryz.func41 rfl rfl (Nat.le_of_ble_eq_true rfl) ?_
  have hmb := midB_byts hb
  (refine Zl rfl ?_; (refine h_alloc rfl rfl IC.zero rfl rfl rfl (fun _ => ?_)); refine Zn rfl rfl rfl rfl rfl ?_; refine Zl rfl ?_; (refine h_alloc rfl rfl IC.zero rfl rfl rfl (fun _ => ?_)); refine hx_plain rfl ?_; (refine h_alloc rfl rfl IC.zero rfl rfl rfl (fun _ => ?_)); refine Zt ?_; refine Zw rfl rfl rfl rfl rfl ?_; refine hx_plain rfl ?_)
  refine h_callW (post := fun u M => if openE bs mgR = 0 then ∃ q, u = .tuple #[.pointer (some ⟨q, 0, none⟩), .int .i64 0] ∧ M = [RRd q (midB bs) 0 0] else u = .tuple #[.pointer none, .int .i64 (openE bs mgR)] ∧ M = []) rfl rfl rfl rfl rfl rfl rfl rfl EC.out (fun w' h => ropened_makes (hr.but h.but) hb mgR rfl) ?_
  intro u M hu
  by_cases q1 : openE bs mgR = 0
  case neg =>
    rw [if_neg q1] at hu
    obtain ⟨rfl, rfl⟩ := hu
    have e1 : decP bs = (.z, [], [], openE bs mgR) := if_pos q1
    rw [e1]
    (refine Zm rfl rfl rfl rfl rfl ?_; (iterate 2 (refine hx_plain rfl ?_; refine h_extract rfl rfl rfl rfl rfl ?_)); refine Za rfl rfl rfl rfl rfl ?_; refine Zn rfl rfl rfl rfl rfl ?_; refine hc_seq ?_; refine Zw rfl rfl rfl rfl rfl ?_; refine Zc rfl rfl rfl rfl rfl rfl rfl ?_; refine Zt ?_; refine hc_condDT rfl (by omega) ?_; refine Zl rfl ?_)
    refine h_loadP (cs' := #[.int .i64 0, .int .i64 0, .int .i64 0, .int .i64 0, .int .i64 0, .int .i64 0, .int .i64 0, .int .i64 0, .int .i64 0, .slice none 0 0, .slice none 0 0, .bool false]) rfl rfl UC.out rfl IC.size (.tail .head) rfl (by kernel_rfl) rfl rfl ?_
    (refine Zm rfl rfl rfl rfl rfl ?_; refine hx_plain rfl ?_; refine h_storeAll rfl rfl rfl rfl rfl rfl IC.size (.tail (.tail .head)) rfl rfl rfl (List.all_eq_true.1 rfl) ?_; refine Zn rfl rfl rfl rfl rfl ?_; refine hc_ret ?_; refine hq_ret_then ?_)
    exact hq_R2 (.inr rfl) rfl (rv_cell rfl .head UC.out rfl IC.size) (rv_tmp rfl) ⟨none, 0, none, 0, rfl, rfl⟩ (fun _ h => St.rowV_nil (St.rowV_nil h.emp))
  rw [if_pos q1] at hu
  obtain ⟨q, rfl, rfl⟩ := hu
  obtain ⟨m, hm⟩ : ∃ m, midB bs = m := ⟨_, rfl⟩
  have hml : m.length ≤ 2000 := by
    have h1 := midB_len bs
    rw [hm] at h1
    unfold openE at q1
    split at q1
    · cases q1
    · omega
  rw [hm] at hmb ⊢
  obtain ⟨z0, hx0⟩ : ∃ z0, hdP0 m = z0 := ⟨_, rfl⟩
  have e1 : decP bs = if z0.er ≠ 0 then (.z, [], [], z0.er) else if z0.r.head ≠ 0 then (.z, [], [], z0.r.head) else finP m (takePs m z0 (rpFs' z0.r)) := by
    unfold decP
    rw [hm, hx0, if_neg (fun h => h q1)]
  rw [e1]
  clear e1
  unfold hdP0 at hx0
  dsimp only at hx0
  obtain ⟨⟨va, pa, ea⟩, ha'⟩ : ∃ a, U32R m 0 0 mst32 = a := ⟨_, rfl⟩
  have ga : pa ≤ m.length := by have := u32_at (er := 0) (most := mst32) (Nat.zero_le m.length); rwa [ha'] at this
  rw [ha'] at hx0
  dsimp only at hx0
  obtain ⟨⟨vb, pb, eb⟩, hb'⟩ : ∃ a, U64R m pa ea mst64 = a := ⟨_, rfl⟩
  have gb : pb ≤ m.length := by have := u64_at (er := ea) (most := mst64) ga; rwa [hb'] at this
  rw [hb'] at hx0
  dsimp only at hx0
  obtain ⟨⟨vc, pc, ec⟩, hc'⟩ : ∃ a, U64R m pb eb mst64 = a := ⟨_, rfl⟩
  have gc : pc ≤ m.length := by have := u64_at (er := eb) (most := mst64) gb; rwa [hc'] at this
  rw [hc'] at hx0
  dsimp only at hx0
  obtain ⟨⟨vd, pd, ed⟩, hd'⟩ : ∃ a, U32R m pc ec mst32 = a := ⟨_, rfl⟩
  have gd : pd ≤ m.length := by have := u32_at (er := ec) (most := mst32) gc; rwa [hd'] at this
  rw [hd'] at hx0
  dsimp only at hx0
  obtain ⟨⟨ve, pe, ee⟩, he'⟩ : ∃ a, U32R m pd ed mst32 = a := ⟨_, rfl⟩
  have ge : pe ≤ m.length := by have := u32_at (er := ed) (most := mst32) gd; rwa [he'] at this
  rw [he'] at hx0
  dsimp only at hx0
  (refine Zm rfl rfl rfl rfl rfl ?_; (iterate 2 (refine hx_plain rfl ?_; refine h_extract rfl rfl rfl rfl rfl ?_)); refine Za rfl rfl rfl rfl rfl ?_; refine Zn rfl rfl rfl rfl rfl ?_; refine hc_seq ?_; refine Zw rfl rfl rfl rfl rfl ?_; refine Zc rfl rfl rfl rfl rfl rfl rfl ?_; refine Zt ?_; refine hc_condF rfl ?_; refine hc_skip ?_; refine hq_then ?_; refine Zw rfl rfl rfl rfl rfl ?_; refine hx_plain rfl ?_)
  refine h_call rfl rfl rfl rfl rfl rfl rfl rfl EC.out (.cons .head .nil) (ru32_spec q m 0 0 hmb (by omega) (Nat.zero_le _) mst32 (by decide)) ?_
  rintro u M ⟨rfl, rfl⟩
  rw [ha']
  (refine Zf rfl rfl rfl rfl rfl ?_; refine hx_plain rfl ?_; refine h_store rfl rfl rfl rfl rfl rfl IC.size (.tail .head) rfl rfl (Nat.le_of_ble_eq_true rfl) (List.all_eq_true.1 rfl) ?_; refine Zt ?_; refine Zw rfl rfl rfl rfl rfl ?_; refine hx_plain rfl ?_)
  refine h_call rfl rfl rfl rfl rfl rfl rfl rfl EC.out (.cons (.tail .head) .nil) (ru64_spec q m pa ea hmb (by omega) ga mst64) ?_
  rintro u M ⟨rfl, rfl⟩
  rw [hb']
  (refine Zf rfl rfl rfl rfl rfl ?_; refine hx_plain rfl ?_; refine h_store rfl rfl rfl rfl rfl rfl IC.size (.tail .head) rfl rfl (Nat.le_of_ble_eq_true rfl) (List.all_eq_true.1 rfl) ?_; refine Zt ?_; refine Zw rfl rfl rfl rfl rfl ?_; refine hx_plain rfl ?_)
  refine h_call rfl rfl rfl rfl rfl rfl rfl rfl EC.out (.cons (.tail .head) .nil) (ru64_spec q m pb eb hmb (by omega) gb mst64) ?_
  rintro u M ⟨rfl, rfl⟩
  rw [hc']
  (refine Zf rfl rfl rfl rfl rfl ?_; refine hx_plain rfl ?_; refine h_store rfl rfl rfl rfl rfl rfl IC.size (.tail .head) rfl rfl (Nat.le_of_ble_eq_true rfl) (List.all_eq_true.1 rfl) ?_; refine Zt ?_; refine Zw rfl rfl rfl rfl rfl ?_; refine hx_plain rfl ?_)
  refine h_call rfl rfl rfl rfl rfl rfl rfl rfl EC.out (.cons (.tail .head) .nil) (ru32_spec q m pc ec hmb (by omega) gc mst32 (by decide)) ?_
  rintro u M ⟨rfl, rfl⟩
  rw [hd']
  (refine Zf rfl rfl rfl rfl rfl ?_; refine hx_plain rfl ?_; refine h_store rfl rfl rfl rfl rfl rfl IC.size (.tail .head) rfl rfl (Nat.le_of_ble_eq_true rfl) (List.all_eq_true.1 rfl) ?_; refine Zt ?_; refine Zw rfl rfl rfl rfl rfl ?_; refine hx_plain rfl ?_)
  refine h_call rfl rfl rfl rfl rfl rfl rfl rfl EC.out (.cons (.tail .head) .nil) (ru32_spec q m pd ed hmb (by omega) gd mst32 (by decide)) ?_
  rintro u M ⟨rfl, rfl⟩
  rw [he']
  (refine Zn rfl rfl rfl rfl rfl ?_; refine Zw rfl rfl rfl rfl rfl ?_; refine Zf rfl rfl rfl rfl rfl ?_; refine hx_plain rfl ?_; refine h_store rfl rfl rfl rfl rfl rfl IC.size (.tail .head) rfl rfl (Nat.le_of_ble_eq_true rfl) (List.all_eq_true.1 rfl) ?_; refine Zt ?_; refine Zw rfl rfl rfl rfl rfl ?_; refine hx_plain rfl ?_)
  refine h_call rfl rfl rfl rfl rfl rfl rfl rfl EC.out (.cons (.tail .head) .nil) (rerr_spec q m pe ee) ?_
  rintro u M ⟨rfl, rfl⟩
  have hxr : z0.er = ee := by rw [← hx0]
  by_cases q2 : ee = 0
  case neg =>
    rw [if_pos (by rw [hxr]; exact q2), hxr]
    (refine Zm rfl rfl rfl rfl rfl ?_; (iterate 2 (refine hx_plain rfl ?_; refine h_extract rfl rfl rfl rfl rfl ?_)); refine Zn rfl rfl rfl rfl rfl ?_; refine hc_seq ?_; refine Zw rfl rfl rfl rfl rfl ?_; refine Zc rfl rfl rfl rfl rfl rfl rfl ?_; refine Zt ?_; refine hc_condDT rfl (by omega) ?_; refine Zl rfl ?_)
    refine h_loadP (cs' := #[.int .i64 0, .int .i64 0, .int .i64 0, .int .i64 0, .int .i64 0, .int .i64 0, .int .i64 0, .int .i64 0, .int .i64 0, .slice none 0 0, .slice none 0 0, .bool false]) rfl rfl UC.out rfl IC.size (.tail (.tail .head)) rfl (by kernel_rfl) rfl rfl ?_
    (refine Zm rfl rfl rfl rfl rfl ?_; refine hx_plain rfl ?_; refine h_storeAll rfl rfl rfl rfl rfl rfl IC.size (.tail (.tail (.tail .head))) rfl rfl rfl (List.all_eq_true.1 rfl) ?_; refine Zn rfl rfl rfl rfl rfl ?_; refine hc_ret ?_; refine hq_ret_then ?_)
    exact hq_R2 (.inr rfl) rfl (rv_cell rfl .head UC.out rfl IC.size) (rv_tmp rfl) ⟨none, 0, none, 0, rfl, rfl⟩ (fun _ h => St.rowV_nil (St.rowV_nil h.emp))
  subst q2
  rw [if_neg (by rw [hxr]; simp)]
  (refine Zm rfl rfl rfl rfl rfl ?_; (iterate 2 (refine hx_plain rfl ?_; refine h_extract rfl rfl rfl rfl rfl ?_)); refine Zn rfl rfl rfl rfl rfl ?_; refine hc_seq ?_; refine Zw rfl rfl rfl rfl rfl ?_; refine Zc rfl rfl rfl rfl rfl rfl rfl ?_; refine Zt ?_; refine hc_condF rfl ?_; refine hc_skip ?_; refine hq_then ?_; refine Zl rfl ?_)
  refine h_loadP (cs' := #[.int .i64 va, .int .i64 vb, .int .i64 vc, .int .i64 vd, .int .i64 ve, .int .i64 0, .int .i64 0, .int .i64 0, .int .i64 0, .slice none 0 0, .slice none 0 0, .bool false]) rfl rfl UC.out rfl IC.size (.tail .head) rfl (by kernel_rfl) rfl rfl ?_
  (refine hx_plain rfl ?_)
  refine h_callR rfl rfl rfl rfl rfl rfl EC.out ((ranswer_spec ⟨va, vb, vc, vd, ve, 0, 0, 0, 0, ⟨none, 0, 0⟩, ⟨none, 0, 0⟩, false⟩).reads _) ?_
  have hxh : z0.r = ⟨va, vb, vc, vd, ve, 0, 0, 0, 0, ⟨none, 0, 0⟩, ⟨none, 0, 0⟩, false⟩ := by rw [← hx0]
  rw [← hxh]
  by_cases q3 : z0.r.head = 0
  case neg =>
    rw [if_pos q3]
    obtain ⟨hd, hhd⟩ : ∃ hd, z0.r.head = hd := ⟨_, rfl⟩
    rw [hhd] at q3 ⊢
    (refine Zn rfl rfl rfl rfl rfl ?_; refine hc_seq ?_; refine Zw rfl rfl rfl rfl rfl ?_; refine Zc rfl rfl rfl rfl rfl rfl rfl ?_; refine Zt ?_; refine hc_condDT rfl (by omega) ?_; refine Zl rfl ?_)
    refine h_loadP (cs' := #[.int .i64 0, .int .i64 0, .int .i64 0, .int .i64 0, .int .i64 0, .int .i64 0, .int .i64 0, .int .i64 0, .int .i64 0, .slice none 0 0, .slice none 0 0, .bool false]) rfl rfl UC.out rfl IC.size (.tail (.tail .head)) rfl (by kernel_rfl) rfl rfl ?_
    (refine Zm rfl rfl rfl rfl rfl ?_; refine hx_plain rfl ?_; refine h_storeAll rfl rfl rfl rfl rfl rfl IC.size (.tail (.tail (.tail .head))) rfl rfl rfl (List.all_eq_true.1 rfl) ?_; refine Zn rfl rfl rfl rfl rfl ?_; refine hc_ret ?_; refine hq_ret_then ?_)
    exact hq_R2 (.inr rfl) rfl (rv_cell rfl .head UC.out rfl IC.size) (rv_tmp rfl) ⟨none, 0, none, 0, rfl, rfl⟩ (fun _ h => St.rowV_nil (St.rowV_nil h.emp))
  rw [if_neg (fun h => h q3), q3]
  have ho : 1 ≤ vd ∧ vd ≤ 10 := by have := headP_op q3; rw [hxh] at this; exact this
  have hfin : finP m (takePs m z0 (rpFs' z0.r)) = stepsP m (fun b => (givL ve vd).contains b) ⟨va, vb, vc, vd, ve, 0, 0, 0, 0, ⟨none, 0, 0⟩, ⟨none, 0, 0⟩, false⟩ pe 0 := by
    rw [← stepsP_eq ho, ← hx0]
  rw [hfin]
  clear hfin
  unfold stepsP
  dsimp only
  (refine Zn rfl rfl rfl rfl rfl ?_; refine hc_seq ?_; refine Zw rfl rfl rfl rfl rfl ?_; refine Zc rfl rfl rfl rfl rfl rfl rfl ?_; refine Zt ?_; refine hc_condF rfl ?_; refine hc_skip ?_; refine hq_then ?_; refine Zl rfl ?_)
  refine h_loadP (cs' := #[.int .i64 va, .int .i64 vb, .int .i64 vc, .int .i64 vd, .int .i64 ve, .int .i64 0, .int .i64 0, .int .i64 0, .int .i64 0, .slice none 0 0, .slice none 0 0, .bool false]) rfl rfl UC.out rfl IC.size (.tail .head) rfl (by kernel_rfl) rfl rfl ?_
  (refine hx_plain rfl ?_)
  refine h_callR rfl rfl rfl rfl rfl rfl EC.out ((gives_spec ⟨va, vb, vc, vd, ve, 0, 0, 0, 0, ⟨none, 0, 0⟩, ⟨none, 0, 0⟩, false⟩).reads _) ?_
  dsimp only
  (refine Zn rfl rfl rfl rfl rfl ?_)
  rename_i b2 b4 b5
  have hcat : ∀ b : UInt8, ∃ v : Bool, (givL ve vd).contains b = v := fun b => ⟨_, rfl⟩
  refine hc_st (C' := St w nowhere [RRd q m pe 0, Blk b5 (.cells #[.int .i64 va, .int .i64 vb, .int .i64 vc, .int .i64 vd, .int .i64 ve, .int .i64 0, .int .i64 0, .int .i64 0, .int .i64 0, .slice none 0 0, .slice none 0 0, .bool false] 30 (0, 0)), Blk b4 (.cells #[.int .i64 0, .int .i64 0, .int .i64 0, .int .i64 0, .int .i64 0, .int .i64 0, .int .i64 0, .int .i64 0, .int .i64 0, .slice none 0 0, .slice none 0 0, .bool false] 30 (0, 0)), Blk b2 (.cells #[.int .i64 0, .int .i64 0, .int .i64 0, .int .i64 0, .int .i64 0, .int .i64 0, .int .i64 0, .int .i64 0, .int .i64 0, .slice none 0 0, .slice none 0 0, .bool false] 30 (0, 0))]) (fun _ h => by (refine St.sub ?_ h; refine .cons .head ?_; refine .cons .head ?_; (with_reducible refine .cons .head ?_); (with_reducible refine .cons .head ?_); exact .nil)) ?_
  obtain ⟨⟨⟨x0, x1, x2, x3⟩, p1, e1⟩, hs1⟩ : ∃ a, oAt ((givL ve vd).contains 97) m pe 0 = a := ⟨_, rfl⟩
  have g1 : p1 ≤ m.length := by have := oAt_at (b := (givL ve vd).contains 97) (e := 0) ge; rwa [hs1] at this
  rw [hs1]
  dsimp only
  refine hc_meet (Y := Unit) (fun _ => [(2, .pointer (some ⟨b2, 0, none⟩)), (4, .pointer (some ⟨b4, 0, none⟩)), (5, .pointer (some ⟨b5, 0, none⟩)), (6, .pointer (some ⟨q, 0, none⟩)), (9, .string ⟨(givL ve vd).toArray⟩)]) (fun _ => [RRd q m p1 e1, Blk b5 (.cells #[.int .i64 va, .int .i64 vb, .int .i64 vc, .int .i64 vd, .int .i64 ve, .int .i64 x0, .int .i64 x1, .int .i64 x2, .int .i64 x3, .slice none 0 0, .slice none 0 0, .bool false] 30 (0, 0)), Blk b4 (.cells #[.int .i64 0, .int .i64 0, .int .i64 0, .int .i64 0, .int .i64 0, .int .i64 0, .int .i64 0, .int .i64 0, .int .i64 0, .slice none 0 0, .slice none 0 0, .bool false] 30 (0, 0)), Blk b2 (.cells #[.int .i64 0, .int .i64 0, .int .i64 0, .int .i64 0, .int .i64 0, .int .i64 0, .int .i64 0, .int .i64 0, .int .i64 0, .slice none 0 0, .slice none 0 0, .bool false] 30 (0, 0))]) (fun _ => True) ?_ ?_
  · obtain ⟨b, hb⟩ := hcat 97
    rw [hb] at hs1
    (refine Zw rfl rfl rfl rfl rfl ?_; refine hx_plain rfl ?_)
    refine h_callR rfl rfl rfl rfl rfl rfl EC.out ((in_spec (givL ve vd) 97 (givL_len ve vd)).reads _) ?_
    rw [hb]
    cases b
    · have h1 := congrArg (fun a => a.1.1) hs1
      have h2 := congrArg (fun a => a.1.2.1) hs1
      have h3 := congrArg (fun a => a.1.2.2.1) hs1
      have h4 := congrArg (fun a => a.1.2.2.2) hs1
      have h5 := congrArg (fun a => a.2.1) hs1
      have h6 := congrArg (fun a => a.2.2) hs1
      dsimp only [oAt, cond_false] at h1 h2 h3 h4 h5 h6
      subst h1 h2 h3 h4 h5 h6
      (refine Zt ?_; refine hc_condF rfl ?_; refine hc_skip ?_)
      exact hq_met () trivial (.cons rfl (.cons rfl (.cons rfl (.cons rfl (.cons rfl .nil))))) (fun _ h => h)
    · obtain ⟨⟨y0, r0, s0⟩, k0⟩ : ∃ a, U64R m pe 0 mst64 = a := ⟨_, rfl⟩
      have j0 : r0 ≤ m.length := by have := u64_at (er := 0) (most := mst64) ge; rwa [k0] at this
      obtain ⟨⟨y1, r1, s1⟩, k1⟩ : ∃ a, U32R m r0 s0 mst32 = a := ⟨_, rfl⟩
      have j1 : r1 ≤ m.length := by have := u32_at (er := s0) (most := mst32) j0; rwa [k1] at this
      obtain ⟨⟨y2, r2, s2⟩, k2⟩ : ∃ a, U32R m r1 s1 mst32 = a := ⟨_, rfl⟩
      have j2 : r2 ≤ m.length := by have := u32_at (er := s1) (most := mst32) j1; rwa [k2] at this
      obtain ⟨⟨y3, r3, s3⟩, k3⟩ : ∃ a, U64R m r2 s2 mst64 = a := ⟨_, rfl⟩
      have hq : oAt true m pe 0 = ((y0, y1, y2, y3), r3, s3) := by
        unfold oAt
        rw [cond_true]
        dsimp only
        rw [k0]
        dsimp only
        rw [k1]
        dsimp only
        rw [k2]
        dsimp only
        rw [k3]
      rw [hq] at hs1
      obtain ⟨⟨rfl, rfl, rfl, rfl⟩, rfl, rfl⟩ : (y0 = x0 ∧ y1 = x1 ∧ y2 = x2 ∧ y3 = x3) ∧ r3 = p1 ∧ s3 = e1 := ⟨⟨congrArg (fun a => a.1.1) hs1, congrArg (fun a => a.1.2.1) hs1, congrArg (fun a => a.1.2.2.1) hs1, congrArg (fun a => a.1.2.2.2) hs1⟩, congrArg (fun a => a.2.1) hs1, congrArg (fun a => a.2.2) hs1⟩
      (refine Zt ?_; refine hc_condT rfl ?_; refine Zw rfl rfl rfl rfl rfl ?_; refine hx_plain rfl ?_)
      refine h_call rfl rfl rfl rfl rfl rfl rfl rfl EC.out (.cons .head .nil) (ru64_spec q m pe 0 hmb (by omega) ge mst64) ?_
      rintro u M ⟨rfl, rfl⟩
      rw [k0]
      (refine Zf rfl rfl rfl rfl rfl ?_; refine hx_plain rfl ?_; refine h_fieldAddr rfl rfl FC.out rfl rfl ?_; refine hx_plain rfl ?_; refine h_store rfl rfl rfl rfl rfl rfl IC.size (.tail .head) rfl rfl (Nat.le_of_ble_eq_true rfl) (List.all_eq_true.1 rfl) ?_; refine Zt ?_; refine Zw rfl rfl rfl rfl rfl ?_; refine hx_plain rfl ?_)
      refine h_call rfl rfl rfl rfl rfl rfl rfl rfl EC.out (.cons (.tail .head) .nil) (ru32_spec q m r0 s0 hmb (by omega) j0 mst32 (by decide)) ?_
      rintro u M ⟨rfl, rfl⟩
      rw [k1]
      (refine Zf rfl rfl rfl rfl rfl ?_; refine hx_plain rfl ?_; refine h_fieldAddr rfl rfl FC.out rfl rfl ?_; refine hx_plain rfl ?_; refine h_store rfl rfl rfl rfl rfl rfl IC.size (.tail .head) rfl rfl (Nat.le_of_ble_eq_true rfl) (List.all_eq_true.1 rfl) ?_; refine Zt ?_; refine Zw rfl rfl rfl rfl rfl ?_; refine hx_plain rfl ?_)
      refine h_call rfl rfl rfl rfl rfl rfl rfl rfl EC.out (.cons (.tail .head) .nil) (ru32_spec q m r1 s1 hmb (by omega) j1 mst32 (by decide)) ?_
      rintro u M ⟨rfl, rfl⟩
      rw [k2]
      (refine Zf rfl rfl rfl rfl rfl ?_; refine hx_plain rfl ?_; refine h_fieldAddr rfl rfl FC.out rfl rfl ?_; refine hx_plain rfl ?_; refine h_store rfl rfl rfl rfl rfl rfl IC.size (.tail .head) rfl rfl (Nat.le_of_ble_eq_true rfl) (List.all_eq_true.1 rfl) ?_; refine Zt ?_; refine hc_lex ?_; refine Zm rfl rfl rfl rfl rfl ?_; refine hx_plain rfl ?_)
      refine h_call rfl rfl rfl rfl rfl rfl rfl rfl EC.out (.cons (.tail .head) .nil) (ru64_spec q m r2 s2 hmb (by omega) j2 mst64) ?_
      rintro u M ⟨rfl, rfl⟩
      rw [k3]
      (refine Zf rfl rfl rfl rfl rfl ?_; refine hx_plain rfl ?_; refine h_fieldAddr rfl rfl FC.out rfl rfl ?_; refine hx_plain rfl ?_; refine h_store rfl rfl rfl rfl rfl rfl IC.size (.tail .head) rfl rfl (Nat.le_of_ble_eq_true rfl) (List.all_eq_true.1 rfl) ?_; refine hx_nil ?_)
      exact hq_met () trivial (.cons rfl (.cons rfl (.cons rfl (.cons rfl (.cons rfl .nil))))) (fun _ h => by (refine St.sub ?_ h; (with_reducible refine .cons (.tail .head) ?_); (with_reducible refine .cons .head ?_); (with_reducible refine .cons .head ?_); (with_reducible refine .cons .head ?_); exact .nil))
  rintro ⟨⟩ _
  obtain ⟨⟨x4, p2, e2⟩, hs2⟩ : ∃ a, oTx ((givL ve vd).contains 100) 1024 m p1 e1 = a := ⟨_, rfl⟩
  have g2 : p2 ≤ m.length := by have := oTx_at (b := (givL ve vd).contains 100) (e := e1) (most := 1024) g1; rwa [hs2] at this
  rw [hs2]
  dsimp only
  refine hc_meet (Y := SlV) (fun _ => [(2, .pointer (some ⟨b2, 0, none⟩)), (4, .pointer (some ⟨b4, 0, none⟩)), (5, .pointer (some ⟨b5, 0, none⟩)), (6, .pointer (some ⟨q, 0, none⟩)), (9, .string ⟨(givL ve vd).toArray⟩)]) (fun sl => [RRd q m p2 e2, Blk b5 (.cells #[.int .i64 va, .int .i64 vb, .int .i64 vc, .int .i64 vd, .int .i64 ve, .int .i64 x0, .int .i64 x1, .int .i64 x2, .int .i64 x3, sl.v, .slice none 0 0, .bool false] 30 (0, 0)), RowV byteE 5 sl.v x4, Blk b4 (.cells #[.int .i64 0, .int .i64 0, .int .i64 0, .int .i64 0, .int .i64 0, .int .i64 0, .int .i64 0, .int .i64 0, .int .i64 0, .slice none 0 0, .slice none 0 0, .bool false] 30 (0, 0)), Blk b2 (.cells #[.int .i64 0, .int .i64 0, .int .i64 0, .int .i64 0, .int .i64 0, .int .i64 0, .int .i64 0, .int .i64 0, .int .i64 0, .slice none 0 0, .slice none 0 0, .bool false] 30 (0, 0))]) (fun sl => sl.len = x4.length) ?_ ?_
  · obtain ⟨b, hb⟩ := hcat 100
    rw [hb] at hs2
    (refine Zw rfl rfl rfl rfl rfl ?_; refine hx_plain rfl ?_)
    refine h_callR rfl rfl rfl rfl rfl rfl EC.out ((in_spec (givL ve vd) 100 (givL_len ve vd)).reads _) ?_
    rw [hb]
    cases b
    · have h1 := congrArg Prod.fst hs2
      have h2 := congrArg (fun a => a.2.1) hs2
      have h3 := congrArg (fun a => a.2.2) hs2
      dsimp only [oTx, cond_false] at h1 h2 h3
      subst h1 h2 h3
      (refine Zt ?_; refine hc_condF rfl ?_; refine hc_skip ?_)
      exact hq_met ⟨none, 0, 0⟩ rfl (.cons rfl (.cons rfl (.cons rfl (.cons rfl (.cons rfl .nil))))) (fun _ h => (St.rowV_nil (E := byteE) (T := 5) h).sub (.cons (.tail .head) (.cons (.tail .head) (.cons .head (.cons .head (.cons .head .nil))))))
    · have hs' : BodyR m p1 e1 1024 = (x4, p2, e2) := hs2
      (refine Zt ?_; refine hc_condT rfl ?_; refine hc_lex ?_; refine Zm rfl rfl rfl rfl rfl ?_; refine hx_plain rfl ?_)
      refine h_callB (.refl _ _) (fun _ h => h.elim) rfl rfl rfl rfl rfl rfl rfl rfl EC.out (.cons .head .nil) ((rbytes_spec q m p1 e1 hmb (by omega) g1 1024 (by decide)).toB.know (φ := fun u => ∃ a c, u = .slice a (BodyR m p1 e1 1024).1.length c) (fun v M w0 F w hp hst => by subst hp; exact St.rowV_shapeS hst .head)) ?_
      rintro u M ⟨⟨a1, c1, rfl⟩, rfl⟩
      rw [hs']
      (refine Zf rfl rfl rfl rfl rfl ?_; refine hx_plain rfl ?_; refine h_store rfl rfl rfl rfl rfl rfl IC.size (.tail (.tail .head)) rfl rfl (Nat.le_of_ble_eq_true rfl) (List.all_eq_true.1 rfl) ?_; refine hx_nil ?_)
      exact hq_met ⟨a1, x4.length, c1⟩ rfl (.cons rfl (.cons rfl (.cons rfl (.cons rfl (.cons rfl .nil))))) (fun _ h => by (refine St.sub ?_ h; (with_reducible refine .cons (.tail (.tail .head)) ?_); (with_reducible refine .cons .head ?_); (with_reducible refine .cons .head ?_); (with_reducible refine .cons .head ?_); (with_reducible refine .cons .head ?_); exact .nil))
  rintro ⟨sa, sn, sc⟩ hsl
  dsimp only at hsl
  subst hsl
  dsimp only [SlV.v]
  by_cases hov : ovr ((givL ve vd).contains 116) m p2 e2 = true
  · rw [if_pos hov]
    obtain ⟨hb, h16⟩ := (Bool.and_eq_true _ _).mp hov
    have h16 := of_decide_eq_true h16
    obtain ⟨⟨n, pn, en⟩, kn⟩ : ∃ a, U32R m p2 e2 mst32 = a := ⟨_, rfl⟩
    have hen : en = 0 := Classical.byContradiction fun h => by
      have := u32_er (m := m) (p := p2) (e := e2) (by rw [kn]; exact h)
      rw [kn] at this h16
      dsimp only at this h16
      omega
    subst hen
    rw [kn] at h16
    dsimp only at h16
    (refine hc_seq ?_; refine Zw rfl rfl rfl rfl rfl ?_; refine hx_plain rfl ?_)
    refine h_callR rfl rfl rfl rfl rfl rfl EC.out ((in_spec (givL ve vd) 116 (givL_len ve vd)).reads _) ?_
    rw [hb]
    (refine Zt ?_; refine hc_condT rfl ?_; refine Zw rfl rfl rfl rfl rfl ?_; refine hx_plain rfl ?_)
    refine h_call rfl rfl rfl rfl rfl rfl rfl rfl EC.out (.cons .head .nil) (ru32_spec q m p2 e2 hmb (by omega) g2 mst32 (by decide)) ?_
    rintro u M ⟨rfl, rfl⟩
    rw [kn]
    (refine Zn rfl rfl rfl rfl rfl ?_; refine Zw rfl rfl rfl rfl rfl ?_; refine hx_plain rfl ?_)
    refine h_call rfl rfl rfl rfl rfl rfl rfl rfl EC.out (.cons .head .nil) (rerr_spec q m pn 0) ?_
    rintro u M ⟨rfl, rfl⟩
    (refine Zm rfl rfl rfl rfl rfl ?_; (iterate 2 (refine hx_plain rfl ?_; refine h_extract rfl rfl rfl rfl rfl ?_)); refine Zn rfl rfl rfl rfl rfl ?_; refine hc_seq ?_; refine Zw rfl rfl rfl rfl rfl ?_; refine Zc rfl rfl rfl rfl rfl rfl rfl ?_; refine Zm rfl rfl rfl rfl rfl ?_; refine hx_yes rfl rfl rfl ?_; refine h_move rfl rfl rfl rfl ?_; refine hx_yes rfl rfl rfl ?_; refine h_cmp rfl rfl rfl rfl rfl rfl ?_; refine Zq rfl rfl rfl rfl rfl rfl ?_; refine Zt ?_; refine hc_condDT rfl (by omega) ?_; refine Zl rfl ?_)
    refine h_loadP (cs' := #[.int .i64 0, .int .i64 0, .int .i64 0, .int .i64 0, .int .i64 0, .int .i64 0, .int .i64 0, .int .i64 0, .int .i64 0, .slice none 0 0, .slice none 0 0, .bool false]) rfl rfl UC.out rfl IC.size (.tail (.tail (.tail .head))) rfl (by kernel_rfl) rfl rfl ?_
    (refine hx_plain rfl ?_; refine h_storeAll rfl rfl rfl rfl rfl rfl IC.size (.tail (.tail (.tail (.tail .head)))) rfl rfl rfl (List.all_eq_true.1 rfl) ?_; refine Zn rfl rfl rfl rfl rfl ?_; refine hc_ret ?_; (iterate 2 (refine hq_ret_then ?_)))
    exact hq_R2 (.inr rfl) rfl (rv_cell rfl .head UC.out rfl IC.size) (rv_tmp rfl) ⟨none, 0, none, 0, rfl, rfl⟩ (fun _ h => St.rowV_nil (St.rowV_nil h.emp))
  rw [if_neg hov]
  obtain ⟨⟨xs, fm, p3, e3⟩, hs3⟩ : ∃ a, oLs ((givL ve vd).contains 116) m p2 e2 = a := ⟨_, rfl⟩
  have g3 : p3 ≤ m.length := by have := oLs_at (b := (givL ve vd).contains 116) (e := e2) g2; rwa [hs3] at this
  rw [hs3]
  dsimp only
  refine hc_meet (Y := SlV) (fun _ => [(2, .pointer (some ⟨b2, 0, none⟩)), (4, .pointer (some ⟨b4, 0, none⟩)), (5, .pointer (some ⟨b5, 0, none⟩)), (6, .pointer (some ⟨q, 0, none⟩))]) (fun ll => [RRd q m p3 e3, Blk b5 (.cells #[.int .i64 va, .int .i64 vb, .int .i64 vc, .int .i64 vd, .int .i64 ve, .int .i64 x0, .int .i64 x1, .int .i64 x2, .int .i64 x3, .slice sa x4.length sc, ll.v, .bool fm] 30 (0, 0)), RowV byteE 5 (.slice sa x4.length sc) x4, RowV entE 94 ll.v xs, Blk b4 (.cells #[.int .i64 0, .int .i64 0, .int .i64 0, .int .i64 0, .int .i64 0, .int .i64 0, .int .i64 0, .int .i64 0, .int .i64 0, .slice none 0 0, .slice none 0 0, .bool false] 30 (0, 0)), Blk b2 (.cells #[.int .i64 0, .int .i64 0, .int .i64 0, .int .i64 0, .int .i64 0, .int .i64 0, .int .i64 0, .int .i64 0, .int .i64 0, .slice none 0 0, .slice none 0 0, .bool false] 30 (0, 0))]) (fun ll => ll.len = xs.length) ?_ ?_
  · obtain ⟨b, hb⟩ := hcat 116
    rw [hb] at hs3 hov
    (refine Zw rfl rfl rfl rfl rfl ?_; refine hx_plain rfl ?_)
    refine h_callR rfl rfl rfl rfl rfl rfl EC.out ((in_spec (givL ve vd) 116 (givL_len ve vd)).reads _) ?_
    rw [hb]
    cases b
    · have h1 := congrArg Prod.fst hs3
      have h2 := congrArg (fun a => a.2.1) hs3
      have h3 := congrArg (fun a => a.2.2.1) hs3
      have h4 := congrArg (fun a => a.2.2.2) hs3
      dsimp only [oLs, cond_false] at h1 h2 h3 h4
      subst h1 h2 h3 h4
      (refine Zt ?_; refine hc_condF rfl ?_; refine hc_skip ?_)
      exact hq_met ⟨none, 0, 0⟩ rfl (.cons rfl (.cons rfl (.cons rfl (.cons rfl .nil)))) (fun _ h => (St.rowV_nil (E := entE) (T := 94) h).sub (.cons (.tail .head) (.cons (.tail .head) (.cons (.tail .head) (.cons .head (.cons .head (.cons .head .nil)))))))
    · obtain ⟨⟨n, pn, en⟩, kn⟩ : ∃ a, U32R m p2 e2 mst32 = a := ⟨_, rfl⟩
      have gn : pn ≤ m.length := by have := u32_at (er := e2) (most := mst32) g2; rwa [kn] at this
      have hn0 : 0 ≤ n := by have := u32_nn hmb (p := p2) (e := e2); rwa [kn] at this
      have h16 : ¬ 16 < n := fun h => hov (by unfold ovr; rw [kn, decide_eq_true h]; rfl)
      obtain ⟨⟨es2, pl, el⟩, kl⟩ : ∃ a, entsT m n.toNat ([], pn, en) = a := ⟨_, rfl⟩
      have gl : pl ≤ m.length := by have := entsT_at (m := m) n.toNat (x := ([], pn, en)) gn; rwa [kl] at this
      obtain ⟨⟨fb, pf, ef⟩, kf⟩ : ∃ a, FlagR m pl el = a := ⟨_, rfl⟩
      have hq : oLs true m p2 e2 = (es2, fb, pf, ef) := by
        unfold oLs
        rw [cond_true]
        dsimp only
        rw [kn]
        dsimp only
        rw [kl]
        dsimp only
        rw [kf]
      rw [hq] at hs3
      obtain ⟨rfl, rfl, rfl, rfl⟩ : es2 = xs ∧ fb = fm ∧ pf = p3 ∧ ef = e3 := ⟨congrArg Prod.fst hs3, congrArg (fun a => a.2.1) hs3, congrArg (fun a => a.2.2.1) hs3, congrArg (fun a => a.2.2.2) hs3⟩
      (refine Zt ?_; refine hc_condT rfl ?_; refine Zw rfl rfl rfl rfl rfl ?_; refine hx_plain rfl ?_)
      refine h_call rfl rfl rfl rfl rfl rfl rfl rfl EC.out (.cons .head .nil) (ru32_spec q m p2 e2 hmb (by omega) g2 mst32 (by decide)) ?_
      rintro u M ⟨rfl, rfl⟩
      rw [kn]
      (refine Zn rfl rfl rfl rfl rfl ?_; refine Zw rfl rfl rfl rfl rfl ?_; refine hx_plain rfl ?_)
      refine h_call rfl rfl rfl rfl rfl rfl rfl rfl EC.out (.cons .head .nil) (rerr_spec q m pn en) ?_
      rintro u M ⟨rfl, rfl⟩
      (refine Zm rfl rfl rfl rfl rfl ?_; (iterate 2 (refine hx_plain rfl ?_; refine h_extract rfl rfl rfl rfl rfl ?_)); refine Zn rfl rfl rfl rfl rfl ?_)
      refine hc_meet (Y := Unit) (fun _ => [(2, .pointer (some ⟨b2, 0, none⟩)), (4, .pointer (some ⟨b4, 0, none⟩)), (5, .pointer (some ⟨b5, 0, none⟩)), (6, .pointer (some ⟨q, 0, none⟩)), (10, .int .i64 n)]) (fun _ => [RRd q m pn en, Blk b5 (.cells #[.int .i64 va, .int .i64 vb, .int .i64 vc, .int .i64 vd, .int .i64 ve, .int .i64 x0, .int .i64 x1, .int .i64 x2, .int .i64 x3, .slice sa x4.length sc, .slice none 0 0, .bool false] 30 (0, 0)), RowV byteE 5 (.slice sa x4.length sc) x4, Blk b4 (.cells #[.int .i64 0, .int .i64 0, .int .i64 0, .int .i64 0, .int .i64 0, .int .i64 0, .int .i64 0, .int .i64 0, .int .i64 0, .slice none 0 0, .slice none 0 0, .bool false] 30 (0, 0)), Blk b2 (.cells #[.int .i64 0, .int .i64 0, .int .i64 0, .int .i64 0, .int .i64 0, .int .i64 0, .int .i64 0, .int .i64 0, .int .i64 0, .slice none 0 0, .slice none 0 0, .bool false] 30 (0, 0))]) (fun _ => True) ?_ ?_
      · by_cases hen : en = 0
        · subst hen
          (refine Zw rfl rfl rfl rfl rfl ?_; refine Zc rfl rfl rfl rfl rfl rfl rfl ?_; refine Zm rfl rfl rfl rfl rfl ?_; refine hx_yes rfl rfl rfl ?_; refine h_move rfl rfl rfl rfl ?_; refine hx_yes rfl rfl rfl ?_; refine h_cmp rfl rfl rfl rfl rfl rfl ?_; refine Zq rfl rfl rfl rfl rfl rfl ?_; refine Zt ?_; refine hc_condDF rfl (by omega) ?_; refine hc_skip ?_)
          exact hq_met () trivial (.cons rfl (.cons rfl (.cons rfl (.cons rfl (.cons rfl .nil))))) (fun _ h => by (refine St.sub ?_ h; refine .cons .head ?_; refine .cons .head ?_; (with_reducible refine .cons .head ?_); (with_reducible refine .cons .head ?_); (with_reducible refine .cons .head ?_); exact .nil))
        · (refine Zw rfl rfl rfl rfl rfl ?_; refine Zc rfl rfl rfl rfl rfl rfl rfl ?_; refine Zm rfl rfl rfl rfl rfl ?_; refine hx_gF rfl rfl rfl (by omega) ?_; (iterate 2 (refine hx_skip rfl rfl rfl rfl rfl rfl ?_)); refine Zp rfl rfl rfl rfl rfl rfl ?_; refine Zt ?_; refine hc_condF rfl ?_; refine hc_skip ?_)
          exact hq_met () trivial (.cons rfl (.cons rfl (.cons rfl (.cons rfl (.cons rfl .nil))))) (fun _ h => by (refine St.sub ?_ h; refine .cons .head ?_; refine .cons .head ?_; (with_reducible refine .cons .head ?_); (with_reducible refine .cons .head ?_); (with_reducible refine .cons .head ?_); exact .nil))
      rintro ⟨⟩ _
      (refine hc_seq ?_; refine Zx rfl rfl rfl rfl rfl ?_; refine hc_block ?_)
      refine hc_cut (id := 0) (Y := SlV) (fun _ => [(2, .pointer (some ⟨b2, 0, none⟩)), (4, .pointer (some ⟨b4, 0, none⟩)), (5, .pointer (some ⟨b5, 0, none⟩)), (6, .pointer (some ⟨q, 0, none⟩))]) (fun ll => [RRd q m pl el, Blk b5 (.cells #[.int .i64 va, .int .i64 vb, .int .i64 vc, .int .i64 vd, .int .i64 ve, .int .i64 x0, .int .i64 x1, .int .i64 x2, .int .i64 x3, .slice sa x4.length sc, ll.v, .bool false] 30 (0, 0)), RowV byteE 5 (.slice sa x4.length sc) x4, RowV entE 94 ll.v es2, Blk b4 (.cells #[.int .i64 0, .int .i64 0, .int .i64 0, .int .i64 0, .int .i64 0, .int .i64 0, .int .i64 0, .int .i64 0, .int .i64 0, .slice none 0 0, .slice none 0 0, .bool false] 30 (0, 0)), Blk b2 (.cells #[.int .i64 0, .int .i64 0, .int .i64 0, .int .i64 0, .int .i64 0, .int .i64 0, .int .i64 0, .int .i64 0, .int .i64 0, .slice none 0 0, .slice none 0 0, .bool false] 30 (0, 0))]) (fun ll => ll.len = es2.length) ?_ ?_
      · refine hc_loop (X := Nat × SlV) (fun x => [(2, .pointer (some ⟨b2, 0, none⟩)), (4, .pointer (some ⟨b4, 0, none⟩)), (5, .pointer (some ⟨b5, 0, none⟩)), (6, .pointer (some ⟨q, 0, none⟩)), (10, .int .i64 n), (11, .int .i64 (x.1 : Int))]) (fun x => [RRd q m (entsT m x.1 ([], pn, en)).2.1 (entsT m x.1 ([], pn, en)).2.2, Blk b5 (.cells #[.int .i64 va, .int .i64 vb, .int .i64 vc, .int .i64 vd, .int .i64 ve, .int .i64 x0, .int .i64 x1, .int .i64 x2, .int .i64 x3, .slice sa x4.length sc, x.2.v, .bool false] 30 (0, 0)), RowV byteE 5 (.slice sa x4.length sc) x4, RowV entE 94 x.2.v (entsT m x.1 ([], pn, en)).1, Blk b4 (.cells #[.int .i64 0, .int .i64 0, .int .i64 0, .int .i64 0, .int .i64 0, .int .i64 0, .int .i64 0, .int .i64 0, .int .i64 0, .slice none 0 0, .slice none 0 0, .bool false] 30 (0, 0)), Blk b2 (.cells #[.int .i64 0, .int .i64 0, .int .i64 0, .int .i64 0, .int .i64 0, .int .i64 0, .int .i64 0, .int .i64 0, .int .i64 0, .slice none 0 0, .slice none 0 0, .bool false] 30 (0, 0))]) (fun x => x.1 ≤ n.toNat ∧ x.2.len = (entsT m x.1 ([], pn, en)).1.length) (fun x => n.toNat - x.1) (0, ⟨none, 0, 0⟩) (.cons rfl (.cons rfl (.cons rfl (.cons rfl (.cons rfl (.cons rfl .nil)))))) ⟨Nat.zero_le _, rfl⟩ (fun _ h => ?_) ?_
        · have h2 := (St.rowV_nil (E := entE) (T := 94) h)
          show St w nowhere [RRd q m pn en, _, _, RowV entE 94 (.slice none 0 0) [], _, _] _
          exact h2.sub (.cons (.tail .head) (.cons (.tail .head) (.cons (.tail .head) (.cons .head (.cons .head (.cons .head .nil))))))
        rintro ⟨i, ⟨la, ln, lc⟩⟩ ⟨hi, hln⟩
        dsimp only [SlV.v] at hi hln ⊢
        by_cases hlt : i < n.toNat
        · have hsl := entsT_len (m := m) i (x := ([], pn, en))
          have hga := entsT_at (m := m) i (x := ([], pn, en)) gn
          have hnx : entsT m (i + 1) ([], pn, en) = entT m (entsT m i ([], pn, en)) := rfl
          obtain ⟨⟨es1, pi, ei⟩, hy⟩ : ∃ y, entsT m i ([], pn, en) = y := ⟨_, rfl⟩
          rw [hy] at hsl hga hnx hln ⊢
          dsimp only at hsl hga hln ⊢
          rw [List.length_nil, Nat.zero_add] at hsl
          subst hln
          obtain ⟨⟨ta, pa', ea'⟩, ha2⟩ : ∃ a, BodyR m pi ei 23 = a := ⟨_, rfl⟩
          have ga2 : pa' ≤ m.length := by have := body_at' (er := ei) (most := 23) hga; rwa [ha2] at this
          obtain ⟨⟨tb, pb', eb'⟩, hb2⟩ : ∃ a, U64R m pa' ea' mst64 = a := ⟨_, rfl⟩
          have gb2 : pb' ≤ m.length := by have := u64_at (er := ea') (most := mst64) ga2; rwa [hb2] at this
          obtain ⟨⟨tc, pc', ec'⟩, hc2⟩ : ∃ a, U32R m pb' eb' mst32 = a := ⟨_, rfl⟩
          have hnx2 : entsT m (i + 1) ([], pn, en) = (es1 ++ [⟨strOf ta, tb, tc⟩], pc', ec') := by
            rw [hnx]
            unfold entT
            dsimp only
            rw [ha2]
            dsimp only
            rw [hb2]
            dsimp only
            rw [hc2]
          (refine hc_seq ?_; refine Zw rfl rfl rfl rfl rfl ?_; refine Zm rfl rfl rfl rfl rfl ?_; refine Zc rfl rfl rfl rfl rfl rfl rfl ?_; refine Zt ?_; refine hc_condDT rfl (by omega) ?_; refine hc_skip ?_; refine hq_then ?_; refine hc_seq ?_; refine hc_block ?_; refine Zl rfl ?_; (refine h_alloc rfl rfl IC.zero rfl rfl rfl (fun _ => ?_)); refine Zt ?_; refine Zw rfl rfl rfl rfl rfl ?_; refine hx_plain rfl ?_)
          refine h_call rfl rfl rfl rfl rfl rfl rfl rfl EC.out (.cons (.tail .head) .nil) (rtext_spec q m pi ei hmb (by omega) hga 23 (by decide)) ?_
          rintro v M ⟨rfl, rfl⟩
          rw [ha2]
          (refine Zf rfl rfl rfl rfl rfl ?_; refine hx_plain rfl ?_; refine h_store rfl rfl rfl rfl rfl rfl IC.size (.tail .head) rfl rfl (Nat.le_of_ble_eq_true rfl) (List.all_eq_true.1 rfl) ?_; refine Zt ?_; refine Zw rfl rfl rfl rfl rfl ?_; refine hx_plain rfl ?_)
          refine h_call rfl rfl rfl rfl rfl rfl rfl rfl EC.out (.cons (.tail .head) .nil) (ru64_spec q m pa' ea' hmb (by omega) ga2 mst64) ?_
          rintro v M ⟨rfl, rfl⟩
          rw [hb2]
          (refine Zf rfl rfl rfl rfl rfl ?_; refine hx_plain rfl ?_; refine h_store rfl rfl rfl rfl rfl rfl IC.size (.tail .head) rfl rfl (Nat.le_of_ble_eq_true rfl) (List.all_eq_true.1 rfl) ?_; refine Zt ?_; refine Zw rfl rfl rfl rfl rfl ?_; refine hx_plain rfl ?_)
          refine h_call rfl rfl rfl rfl rfl rfl rfl rfl EC.out (.cons (.tail .head) .nil) (ru32_spec q m pb' eb' hmb (by omega) gb2 mst32 (by decide)) ?_
          rintro v M ⟨rfl, rfl⟩
          rw [hc2]
          (refine Zf rfl rfl rfl rfl rfl ?_; refine hx_plain rfl ?_; refine h_store rfl rfl rfl rfl rfl rfl IC.size (.tail .head) rfl rfl (Nat.le_of_ble_eq_true rfl) (List.all_eq_true.1 rfl) ?_; refine Zt ?_; refine hc_lex ?_; refine Zf rfl rfl rfl rfl rfl ?_; refine hx_plain rfl ?_; refine h_load rfl rfl UC.out rfl (.tail (.tail .head)) rfl rfl rfl ?_; refine hx_plain rfl ?_)
          refine h_loadP (cs' := #[.string (strOf ta), .int .i64 tb, .int .i64 tc]) rfl rfl UC.out rfl IC.size .head rfl (by kernel_rfl) rfl rfl ?_
          (refine hx_plain rfl ?_; (refine h_buildSlice rfl rfl rfl UC.out IC.size IC.zero rfl rfl (by intro v hv; simp at hv; first | (subst hv; rfl) | (rcases hv with rfl | rfl <;> rfl) | (rcases hv with rfl | rfl | rfl <;> rfl)) (by omega) rfl rfl (fun _ => ?_)); refine hx_plain rfl ?_)
          refine h_appendR (m := 1) (E := entE) (T := 94) (xs := es1) (ys := [⟨strOf ta, tb, tc⟩]) rfl rfl rfl rfl rfl UC.out IC.out rfl (.cons (.tail (.tail (.tail (.tail (.tail .head))))) (.cons .head .nil)) rfl rfl (one_row entE _) (by unfold maxLen; omega) (by omega) rfl rfl (fun g' c' => ?_)
          (refine Zf rfl rfl rfl rfl rfl ?_; refine hx_plain rfl ?_; refine h_store rfl rfl rfl rfl rfl rfl IC.size (.tail (.tail (.tail (.tail .head)))) rfl rfl (Nat.le_of_ble_eq_true rfl) (List.all_eq_true.1 rfl) ?_; refine hx_nil ?_; refine hq_norm_block ?_; refine hq_then ?_; refine hc_lex ?_; refine Zm rfl rfl rfl rfl rfl ?_; refine hx_plain rfl ?_; refine h_arithI rfl rfl rfl rfl (by omega) rfl rfl ?_; refine Za rfl rfl rfl rfl rfl ?_; refine hx_nil ?_)
          refine hq_round (i + 1, ⟨some ⟨g', 0, none⟩, (es1 ++ [(⟨strOf ta, tb, tc⟩ : EntV)]).length, c'⟩) (by show n.toNat - (i + 1) < n.toNat - i; omega) ⟨by show i + 1 ≤ n.toNat; omega, by rw [hnx2]⟩ (.cons rfl (.cons rfl (.cons rfl (.cons rfl (.cons rfl (.cons rfl .nil)))))) (fun x h => ?_)
          dsimp only [SlV.v]
          rw [hnx2]
          have h1 := (show St w nowhere [Row entE 94 g' c' (es1 ++ [(⟨strOf ta, tb, tc⟩ : EntV)]), RRd q m pc' ec', Blk b5 (.cells #[.int .i64 va, .int .i64 vb, .int .i64 vc, .int .i64 vd, .int .i64 ve, .int .i64 x0, .int .i64 x1, .int .i64 x2, .int .i64 x3, .slice sa x4.length sc, .slice (some ⟨g', 0, none⟩) (es1 ++ [(⟨strOf ta, tb, tc⟩ : EntV)]).length c', .bool false] 30 (0, 0)), RowV byteE 5 (.slice sa x4.length sc) x4, Blk b4 (.cells #[.int .i64 0, .int .i64 0, .int .i64 0, .int .i64 0, .int .i64 0, .int .i64 0, .int .i64 0, .int .i64 0, .int .i64 0, .slice none 0 0, .slice none 0 0, .bool false] 30 (0, 0)), Blk b2 (.cells #[.int .i64 0, .int .i64 0, .int .i64 0, .int .i64 0, .int .i64 0, .int .i64 0, .int .i64 0, .int .i64 0, .int .i64 0, .slice none 0 0, .slice none 0 0, .bool false] 30 (0, 0))] x by (refine St.sub ?_ h; (with_reducible refine .cons (.tail .head) ?_); (with_reducible refine .cons (.tail (.tail (.tail .head))) ?_); (with_reducible refine .cons .head ?_); (with_reducible refine .cons (.tail (.tail .head)) ?_); (with_reducible refine .cons (.tail (.tail .head)) ?_); (with_reducible refine .cons (.tail (.tail .head)) ?_); exact .nil)).rowV_mk
          exact h1.sub (.cons (.tail .head) (.cons (.tail .head) (.cons (.tail .head) (.cons .head (.cons .head (.cons .head .nil))))))
        · obtain rfl : i = n.toNat := by omega
          rw [kl] at hln ⊢
          (refine hc_seq ?_; refine Zw rfl rfl rfl rfl rfl ?_; refine Zm rfl rfl rfl rfl rfl ?_; refine Zc rfl rfl rfl rfl rfl rfl rfl ?_; refine Zt ?_; refine hc_condDF rfl (by omega) ?_; refine hc_exit ?_; (iterate 2 (refine hq_exit_then ?_)))
          exact hq_cut ⟨la, ln, lc⟩ hln (.cons rfl (.cons rfl (.cons rfl (.cons rfl .nil)))) (fun _ h => h)
      rintro ll hll
      (refine hq_exit_block ?_; refine hq_then ?_; refine hc_lex ?_; refine Zm rfl rfl rfl rfl rfl ?_; refine hx_plain rfl ?_)
      refine h_call rfl rfl rfl rfl rfl rfl rfl rfl EC.out (.cons .head .nil) (rflag_spec q m pl el hmb (by omega) gl) ?_
      rintro v M ⟨rfl, rfl⟩
      rw [kf]
      (refine Zf rfl rfl rfl rfl rfl ?_; refine hx_plain rfl ?_; refine h_store rfl rfl rfl rfl rfl rfl IC.size (.tail .head) rfl rfl (Nat.le_of_ble_eq_true rfl) (List.all_eq_true.1 rfl) ?_; refine hx_nil ?_)
      exact hq_met ll hll (.cons rfl (.cons rfl (.cons rfl (.cons rfl .nil)))) (fun _ h => by (refine St.sub ?_ h; (with_reducible refine .cons (.tail .head) ?_); (with_reducible refine .cons .head ?_); (with_reducible refine .cons .head ?_); (with_reducible refine .cons .head ?_); (with_reducible refine .cons .head ?_); (with_reducible refine .cons .head ?_); exact .nil))
  rintro ⟨la, ln, lc⟩ hll
  dsimp only at hll
  subst hll
  dsimp only [SlV.v]
  (refine Zw rfl rfl rfl rfl rfl ?_; refine hx_plain rfl ?_)
  refine h_call rfl rfl rfl rfl rfl rfl rfl rfl EC.out (.cons .head .nil) (rclose_spec q m p3 e3) ?_
  rintro u M ⟨rfl, rfl⟩
  obtain ⟨ce, hce⟩ : ∃ c, CloseR m p3 e3 = c := ⟨_, rfl⟩
  rw [hce]
  by_cases q4 : ce = 0
  case neg =>
    rw [finP_close (y := ⟨⟨va, vb, vc, vd, ve, x0, x1, x2, x3, ⟨none, 0, 0⟩, ⟨none, 0, 0⟩, fm⟩, x4, xs, p3, e3, false⟩) (c := ce) rfl hce q4]
    (refine Zn rfl rfl rfl rfl rfl ?_; refine hc_seq ?_; refine Zw rfl rfl rfl rfl rfl ?_; refine Zc rfl rfl rfl rfl rfl rfl rfl ?_; refine Zt ?_; refine hc_condDT rfl (by omega) ?_; refine Zl rfl ?_)
    refine h_loadP (cs' := #[.int .i64 0, .int .i64 0, .int .i64 0, .int .i64 0, .int .i64 0, .int .i64 0, .int .i64 0, .int .i64 0, .int .i64 0, .slice none 0 0, .slice none 0 0, .bool false]) rfl rfl UC.out rfl IC.size (.tail (.tail (.tail (.tail .head)))) rfl (by kernel_rfl) rfl rfl ?_
    (refine Zm rfl rfl rfl rfl rfl ?_; refine hx_plain rfl ?_; refine h_storeAll rfl rfl rfl rfl rfl rfl IC.size (.tail (.tail (.tail (.tail (.tail .head))))) rfl rfl rfl (List.all_eq_true.1 rfl) ?_; refine Zn rfl rfl rfl rfl rfl ?_; refine hc_ret ?_; refine hq_ret_then ?_)
    exact hq_R2 (.inr rfl) rfl (rv_cell rfl .head UC.out rfl IC.size) (rv_tmp rfl) ⟨none, 0, none, 0, rfl, rfl⟩ (fun _ h => St.rowV_nil (St.rowV_nil h.emp))
  subst q4
  obtain ⟨R, hR⟩ : ∃ R : RepV, R = ⟨va, vb, vc, vd, ve, x0, x1, x2, x3, ⟨sa, x4.length, sc⟩, ⟨la, xs.length, lc⟩, fm⟩ := ⟨_, rfl⟩
  have hRh : R.head = 0 := by rw [hxh] at q3; rw [hR]; exact q3
  have hRo : 1 ≤ R.op ∧ R.op ≤ 10 := by rw [hR]; exact ho
  have hchk : RepV.chk ⟨va, vb, vc, vd, ve, x0, x1, x2, x3, ⟨none, x4.length, 0⟩, ⟨none, xs.length, 0⟩, fm⟩ xs = if R.good xs = true then 0 else 46 := by
    have h1 := R.chk_dv xs ⟨none, x4.length, 0⟩ ⟨none, xs.length, 0⟩ (by rw [hR]) (by rw [hR])
    have h2 : R.chk xs = if R.good xs = true then 0 else 46 := by unfold RepV.chk; rw [if_pos hRh]
    rw [← h2, ← h1, hR]
  (refine Zn rfl rfl rfl rfl rfl ?_; refine hc_seq ?_; refine Zw rfl rfl rfl rfl rfl ?_; refine Zc rfl rfl rfl rfl rfl rfl rfl ?_; refine Zt ?_; refine hc_condF rfl ?_; refine hc_skip ?_; refine hq_then ?_; refine Zl rfl ?_)
  refine h_loadP (cs' := #[.int .i64 va, .int .i64 vb, .int .i64 vc, .int .i64 vd, .int .i64 ve, .int .i64 x0, .int .i64 x1, .int .i64 x2, .int .i64 x3, .slice sa x4.length sc, .slice la xs.length lc, .bool fm]) rfl rfl UC.out rfl IC.size (.tail .head) rfl (by kernel_rfl) rfl rfl ?_
  (refine hx_plain rfl ?_)
  refine h_callRd (v := .int .i64 (if R.good xs = true then 0 else 46)) rfl rfl rfl rfl rfl rfl EC.out (fun w' h => by
    have hre := h.rdRowV (xs := xs) (.tail (.tail (.tail .head)))
    have := brought_reads (w := w') R (es := xs) hRo (by rw [hR]; exact hre)
    rw [hR] at this ⊢
    exact this) ?_
  cases hg : R.good xs with
  | false =>
    rw [hg, if_neg Bool.false_ne_true] at hchk
    rw [finP_chk (y := ⟨⟨va, vb, vc, vd, ve, x0, x1, x2, x3, ⟨none, 0, 0⟩, ⟨none, 0, 0⟩, fm⟩, x4, xs, p3, e3, false⟩) (c := 46) rfl hce hchk (by decide), if_neg Bool.false_ne_true]
    (refine Zn rfl rfl rfl rfl rfl ?_; refine hc_seq ?_; refine Zw rfl rfl rfl rfl rfl ?_; refine Zc rfl rfl rfl rfl rfl rfl rfl ?_; refine Zt ?_; refine hc_condT rfl ?_; refine Zl rfl ?_)
    refine h_loadP (cs' := #[.int .i64 0, .int .i64 0, .int .i64 0, .int .i64 0, .int .i64 0, .int .i64 0, .int .i64 0, .int .i64 0, .int .i64 0, .slice none 0 0, .slice none 0 0, .bool false]) rfl rfl UC.out rfl IC.size (.tail (.tail (.tail (.tail .head)))) rfl (by kernel_rfl) rfl rfl ?_
    (refine Zm rfl rfl rfl rfl rfl ?_; refine hx_plain rfl ?_; refine h_storeAll rfl rfl rfl rfl rfl rfl IC.size (.tail (.tail (.tail (.tail (.tail .head))))) rfl rfl rfl (List.all_eq_true.1 rfl) ?_; refine Zn rfl rfl rfl rfl rfl ?_; refine hc_ret ?_; refine hq_ret_then ?_)
    exact hq_R2 (.inr rfl) rfl (rv_cell rfl .head UC.out rfl IC.size) (rv_tmp rfl) ⟨none, 0, none, 0, rfl, rfl⟩ (fun _ h => St.rowV_nil (St.rowV_nil h.emp))
  | true =>
    rw [hg, if_pos rfl] at hchk
    rw [finP_ok (y := ⟨⟨va, vb, vc, vd, ve, x0, x1, x2, x3, ⟨none, 0, 0⟩, ⟨none, 0, 0⟩, fm⟩, x4, xs, p3, e3, false⟩) rfl hce hchk, if_pos rfl]
    (refine Zn rfl rfl rfl rfl rfl ?_; refine hc_seq ?_; refine Zw rfl rfl rfl rfl rfl ?_; refine Zc rfl rfl rfl rfl rfl rfl rfl ?_; refine Zt ?_; refine hc_condF rfl ?_; refine hc_skip ?_; refine hq_then ?_; refine Zl rfl ?_)
    refine h_loadP (cs' := #[.int .i64 va, .int .i64 vb, .int .i64 vc, .int .i64 vd, .int .i64 ve, .int .i64 x0, .int .i64 x1, .int .i64 x2, .int .i64 x3, .slice sa x4.length sc, .slice la xs.length lc, .bool fm]) rfl rfl UC.out rfl IC.size (.tail .head) rfl (by kernel_rfl) rfl rfl ?_
    (refine hx_plain rfl ?_; refine h_storeAll rfl rfl rfl rfl rfl rfl IC.size (.tail (.tail (.tail (.tail (.tail .head))))) rfl rfl rfl (List.all_eq_true.1 rfl) ?_; refine Zn rfl rfl rfl rfl rfl ?_; refine hc_ret ?_)
    exact hq_R2 (.inr rfl) rfl (rv_cell rfl .head UC.out rfl IC.size) (rv_tmp rfl) ⟨sa, sc, la, lc, rfl, rfl⟩ (fun _ h => by (refine St.sub ?_ h; (with_reducible refine .cons (.tail (.tail (.tail .head))) ?_); (with_reducible refine .cons (.tail (.tail (.tail .head))) ?_); exact .nil))
end Go.Proofs.YtfolhmlldoepfaaGreatDoor
namespace Go.Proofs.YtfolhmlldoepfaaGreatDoor
open Go Go.Proofs Go.RowKit
set_option maxRecDepth 4000
theorem xor8 (b : Int) : 0 ≤ bits .xor .u8 b 16 ∧ bits .xor .u8 b 16 ≤ 255 := by
  unfold bits
  rw [wrap8_eq]
  omega
theorem sameQ_self (a b : ReqV) (ds : List Int) (h : { a with dv := b.dv } = b) : sameQ a b ds ds = true := by
  rw [← h]
  simp [sameQ]
theorem sameP_self (a b : RepV) (ds : List Int) (es : List EntV) (h : { a with dv := b.dv, lv := b.lv } = b) : sameP a b ds ds es es = true := by
  rw [← h]
  simp [sameP]
set_option maxHeartbeats 16000000 in
theorem decodes_law {w : World} (hk : Known w) {v : Value} {bs : List Int} (hr : Rd byteE w v bs) (hb : Byts bs) (hl : bs.length ≤ 140737488355100) :
    Calls Tryz.prog 9 [v].toArray w (fun en w' => en = .returned (.bool true) ∧ But w w' nowhere) := by
  have h0 := hr
  obtain ⟨a0, c0, rfl, l0, m0, k0⟩ := hr
  unfold maxLen at m0
  have lA : (bs ++ room3).length = bs.length + 3 := by rw [List.length_append]; rfl
  refine reads_of Tryz.func9 rfl rfl (Nat.le_of_ble_eq_true rfl) ?_
  (refine Zx rfl rfl rfl rfl rfl ?_; refine Zl rfl ?_)
  refine h_callRd rfl rfl rfl rfl rfl rfl EC.out (fun w' h => head_reads (hk.but h.but)) ?_
  (refine Zn rfl rfl rfl rfl rfl ?_; refine hc_seq ?_; refine Zw rfl rfl rfl rfl rfl ?_; refine hx_plain rfl ?_; refine h_not rfl rfl rfl rfl ?_; refine Zt ?_; refine hc_condF rfl ?_; refine hc_skip ?_; refine hq_then ?_; refine Zw rfl rfl rfl rfl rfl ?_; refine hx_plain rfl ?_)
  refine h_callW (post := fun u M => M = [RowV byteE 5 u (bs ++ room3)]) rfl rfl rfl rfl rfl rfl rfl rfl EC.out (fun w' h => room_makes (h0.but h.but) hl) ?_
  rintro u M rfl
  (refine Zn rfl rfl rfl rfl rfl ?_)
  refine hc_rowV .head (fun _ e => by rw [e] at lA; simp at lA) ?_
  rw [lA]
  rintro g c rfl
  refine hc_know (fun _ h => h.row_le) ?_
  rintro ⟨hcp, _⟩
  rw [lA] at hcp
  obtain ⟨A, hA⟩ : ∃ A, bs ++ room3 = A := ⟨_, rfl⟩
  have hin1 : ∀ x L L', St w nowhere L x → Pull L (Row byteE 5 g c A) L' → Rd byteE x (.slice (some ⟨g, 0, none⟩) bs.length c) bs := fun x L L' h hp => by
    have := h.rdRow hp
    rw [← hA] at this
    exact rd_full this rfl
  have hfl : ∀ x L L', St w nowhere L x → Pull L (Row byteE 5 g c A) L' → Rd byteE x (.slice (some ⟨g, 0, none⟩) (bs.length + 3) c) (bs ++ room3) := fun x L L' h hp => by
    have := h.rdRow hp
    rw [← hA, lA] at this
    exact this
  rw [hA]
  (refine Zw rfl rfl rfl rfl rfl ?_; refine Zm rfl rfl rfl rfl rfl ?_; refine hx_plain rfl ?_; refine h_len_slice rfl rfl rfl UC.out rfl rfl rfl ?_; refine hx_plain rfl ?_; refine h_sliceTo rfl rfl rfl UC.out IC.size (by omega) rfl rfl ?_; refine Zn rfl rfl rfl rfl rfl ?_; refine Zw rfl rfl rfl rfl rfl ?_; refine hx_plain rfl ?_)
  refine h_callW (post := DecQ (decQ bs)) rfl rfl rfl rfl rfl rfl rfl rfl EC.out (fun w' h => decQ_makes (hk.but h.but) (hin1 w' _ _ h .head) hb) ?_
  obtain ⟨⟨⟨client_1, seq_1, ack_1, epoch_1, op_1, id_1, id2_1, off_1, len_1, path_1, name_1, name2_1, ⟨da_1, dn_1, dc_1⟩⟩, qd_1, qe_1⟩, hdq_1⟩ : ∃ d, decQ bs = d := ⟨_, rfl⟩
  rw [hdq_1]
  rintro u M ⟨a1_1, c1_1, rfl, rfl⟩
  dsimp only [ReqV.cs, SlV.v]
  (refine Zm rfl rfl rfl rfl rfl ?_; (iterate 2 (refine hx_plain rfl ?_; refine h_extract rfl rfl rfl rfl rfl ?_)); refine hx_plain rfl ?_; (refine h_alloc rfl rfl IC.zero rfl rfl rfl (fun _ => ?_)); refine hx_plain rfl ?_; refine h_storeAll rfl rfl rfl rfl rfl rfl IC.size .head rfl rfl rfl (List.all_eq_true.1 rfl) ?_; refine Zn rfl rfl rfl rfl rfl ?_; refine Zw rfl rfl rfl rfl rfl ?_; refine hx_plain rfl ?_)
  rename_i b6
  refine h_callW (post := DecQ (decQ bs)) rfl rfl rfl rfl rfl rfl rfl rfl EC.out (fun w' h => rdecodeRequest_makes (h0.but h.but) hb) ?_
  rw [hdq_1]
  rintro u M ⟨a2_1, c2_1, rfl, rfl⟩
  dsimp only [ReqV.cs, SlV.v]
  (refine Zm rfl rfl rfl rfl rfl ?_; (iterate 2 (refine hx_plain rfl ?_; refine h_extract rfl rfl rfl rfl rfl ?_)); refine hx_plain rfl ?_; (refine h_alloc rfl rfl IC.zero rfl rfl rfl (fun _ => ?_)); refine hx_plain rfl ?_; refine h_storeAll rfl rfl rfl rfl rfl rfl IC.size .head rfl rfl rfl (List.all_eq_true.1 rfl) ?_; refine Zn rfl rfl rfl rfl rfl ?_; refine Zl rfl ?_)
  rename_i b8
  refine h_loadP (cs' := #[.int .i64 client_1, .int .i64 seq_1, .int .i64 ack_1, .int .i64 epoch_1, .int .i64 op_1, .int .i64 id_1, .int .i64 id2_1, .int .i64 off_1, .int .i64 len_1, .string path_1, .string name_1, .string name2_1, .slice a1_1 qd_1.length c1_1]) rfl rfl UC.out rfl IC.size (.tail (.tail .head)) rfl (by kernel_rfl) rfl rfl ?_
  (refine hx_plain rfl ?_)
  refine h_loadP (cs' := #[.int .i64 client_1, .int .i64 seq_1, .int .i64 ack_1, .int .i64 epoch_1, .int .i64 op_1, .int .i64 id_1, .int .i64 id2_1, .int .i64 off_1, .int .i64 len_1, .string path_1, .string name_1, .string name2_1, .slice a2_1 qd_1.length c2_1]) rfl rfl UC.out rfl IC.size .head rfl (by kernel_rfl) rfl rfl ?_
  (refine hx_plain rfl ?_)
  refine h_callRd (v := .bool true) rfl rfl rfl rfl rfl rfl EC.out (fun w' h => by
    have := sameRequest (a := ⟨client_1, seq_1, ack_1, epoch_1, op_1, id_1, id2_1, off_1, len_1, path_1, name_1, name2_1, ⟨a1_1, qd_1.length, c1_1⟩⟩) (b := ⟨client_1, seq_1, ack_1, epoch_1, op_1, id_1, id2_1, off_1, len_1, path_1, name_1, name2_1, ⟨a2_1, qd_1.length, c2_1⟩⟩) (da := qd_1) (db := qd_1) (h.rdRowV (.tail (.tail (.tail .head)))) (h.rdRowV (.tail .head))
    rw [sameQ_self _ _ _ rfl] at this
    exact this) ?_
  (refine Zn rfl rfl rfl rfl rfl ?_)
  refine hc_st (C' := St w nowhere [Blk b6 (.cells #[.int .i64 client_1, .int .i64 seq_1, .int .i64 ack_1, .int .i64 epoch_1, .int .i64 op_1, .int .i64 id_1, .int .i64 id2_1, .int .i64 off_1, .int .i64 len_1, .string path_1, .string name_1, .string name2_1, .slice a1_1 qd_1.length c1_1] 24 (0, 0)), Blk b8 (.cells #[.int .i64 client_1, .int .i64 seq_1, .int .i64 ack_1, .int .i64 epoch_1, .int .i64 op_1, .int .i64 id_1, .int .i64 id2_1, .int .i64 off_1, .int .i64 len_1, .string path_1, .string name_1, .string name2_1, .slice a2_1 qd_1.length c2_1] 24 (0, 0)), Row byteE 5 g c A]) (fun _ h => by (refine St.sub ?_ h; refine .cons (.tail (.tail .head)) ?_; (with_reducible refine .cons .head ?_); refine .cons (.tail (.tail .head)) ?_; exact .nil)) ?_
  (refine hc_seq ?_; refine Zw rfl rfl rfl rfl rfl ?_; refine hx_plain rfl ?_)
  refine h_callR rfl rfl rfl rfl rfl rfl EC.out ((lnum_spec qe_1).reads _) ?_
  (refine Zm rfl rfl rfl rfl rfl ?_; refine Zc rfl rfl rfl rfl rfl rfl rfl ?_; refine Zm rfl rfl rfl rfl rfl ?_; refine hx_gF rfl rfl rfl (by omega) ?_; refine hx_yes rfl rfl rfl ?_; refine h_move rfl rfl rfl rfl ?_; refine hx_yes rfl rfl rfl ?_; refine h_not rfl rfl rfl rfl ?_; refine Zp rfl rfl rfl rfl rfl rfl ?_; refine Zt ?_; refine hc_condF rfl ?_; refine hc_skip ?_; refine hq_then ?_; refine Zw rfl rfl rfl rfl rfl ?_; refine hx_plain rfl ?_)
  refine h_callW (post := DecP (decP bs)) rfl rfl rfl rfl rfl rfl rfl rfl EC.out (fun w' h => decP_makes (hk.but h.but) (hin1 w' _ _ h (.tail (.tail .head))) hb) ?_
  obtain ⟨⟨⟨pclient_1, pseq_1, pepoch_1, pop_1, status_1, aid_1, akind_1, asize_1, achange_1, ⟨pa_1, pn_1, pc_1⟩, ⟨la_1, ln_1, lc_1⟩, more_1⟩, pd_1, pes_1, pe_1⟩, hdp_1⟩ : ∃ d, decP bs = d := ⟨_, rfl⟩
  rw [hdp_1]
  rintro u M ⟨a3_1, c3_1, a4_1, c4_1, rfl, rfl⟩
  dsimp only [RepV.cs, SlV.v]
  (refine Zm rfl rfl rfl rfl rfl ?_; (iterate 2 (refine hx_plain rfl ?_; refine h_extract rfl rfl rfl rfl rfl ?_)); refine hx_plain rfl ?_; (refine h_alloc rfl rfl IC.zero rfl rfl rfl (fun _ => ?_)); refine hx_plain rfl ?_; refine h_storeAll rfl rfl rfl rfl rfl rfl IC.size .head rfl rfl rfl (List.all_eq_true.1 rfl) ?_; refine Zn rfl rfl rfl rfl rfl ?_; refine Zw rfl rfl rfl rfl rfl ?_; refine hx_plain rfl ?_)
  rename_i b10
  refine h_callW (post := DecP (decP bs)) rfl rfl rfl rfl rfl rfl rfl rfl EC.out (fun w' h => rdecodeReply_makes (h0.but h.but) hb) ?_
  rw [hdp_1]
  rintro u M ⟨a5_1, c5_1, a6_1, c6_1, rfl, rfl⟩
  dsimp only [RepV.cs, SlV.v]
  (refine Zm rfl rfl rfl rfl rfl ?_; (iterate 2 (refine hx_plain rfl ?_; refine h_extract rfl rfl rfl rfl rfl ?_)); refine hx_plain rfl ?_; (refine h_alloc rfl rfl IC.zero rfl rfl rfl (fun _ => ?_)); refine hx_plain rfl ?_; refine h_storeAll rfl rfl rfl rfl rfl rfl IC.size .head rfl rfl rfl (List.all_eq_true.1 rfl) ?_; refine Zn rfl rfl rfl rfl rfl ?_; refine Zl rfl ?_)
  rename_i b11
  refine h_loadP (cs' := #[.int .i64 pclient_1, .int .i64 pseq_1, .int .i64 pepoch_1, .int .i64 pop_1, .int .i64 status_1, .int .i64 aid_1, .int .i64 akind_1, .int .i64 asize_1, .int .i64 achange_1, .slice a3_1 pd_1.length c3_1, .slice a4_1 pes_1.length c4_1, .bool more_1]) rfl rfl UC.out rfl IC.size (.tail (.tail (.tail .head))) rfl (by kernel_rfl) rfl rfl ?_
  (refine hx_plain rfl ?_)
  refine h_loadP (cs' := #[.int .i64 pclient_1, .int .i64 pseq_1, .int .i64 pepoch_1, .int .i64 pop_1, .int .i64 status_1, .int .i64 aid_1, .int .i64 akind_1, .int .i64 asize_1, .int .i64 achange_1, .slice a5_1 pd_1.length c5_1, .slice a6_1 pes_1.length c6_1, .bool more_1]) rfl rfl UC.out rfl IC.size .head rfl (by kernel_rfl) rfl rfl ?_
  (refine hx_plain rfl ?_)
  refine h_callRd (v := .bool true) rfl rfl rfl rfl rfl rfl EC.out (fun w' h => by
    have := sameReply (a := ⟨pclient_1, pseq_1, pepoch_1, pop_1, status_1, aid_1, akind_1, asize_1, achange_1, ⟨a3_1, pd_1.length, c3_1⟩, ⟨a4_1, pes_1.length, c4_1⟩, more_1⟩) (b := ⟨pclient_1, pseq_1, pepoch_1, pop_1, status_1, aid_1, akind_1, asize_1, achange_1, ⟨a5_1, pd_1.length, c5_1⟩, ⟨a6_1, pes_1.length, c6_1⟩, more_1⟩) (da := pd_1) (db := pd_1) (ea := pes_1) (eb := pes_1) (h.rdRowV (.tail (.tail (.tail (.tail .head))))) (h.rdRowV (.tail .head)) (h.rdRowV (.tail (.tail (.tail (.tail (.tail .head)))))) (h.rdRowV (.tail (.tail .head)))
    rw [sameP_self _ _ _ _ rfl] at this
    exact this) ?_
  (refine Zn rfl rfl rfl rfl rfl ?_; refine Zw rfl rfl rfl rfl rfl ?_; refine hx_plain rfl ?_)
  refine h_callRd rfl rfl rfl rfl rfl rfl EC.out (fun w' h => kind_reads (hin1 w' _ _ h (.tail (.tail (.tail (.tail (.tail (.tail (.tail (.tail .head)))))))))) ?_
  (refine Zn rfl rfl rfl rfl rfl ?_; refine Zw rfl rfl rfl rfl rfl ?_; refine Zm rfl rfl rfl rfl rfl ?_; refine hx_plain rfl ?_)
  refine h_callW (post := fun u M => M = [RowV byteE 5 u (bs ++ room3)]) rfl rfl rfl rfl rfl rfl rfl rfl EC.out (fun w' h => room_makes (h0.but h.but) hl) ?_
  rintro u M rfl
  (refine hx_plain rfl ?_)
  refine h_callRd rfl rfl rfl rfl rfl rfl EC.out (fun w' h => sameBytes (hfl w' _ _ h (.tail (.tail (.tail (.tail (.tail (.tail (.tail (.tail (.tail .head)))))))))) (h.rdRowV .head)) ?_
  rw [decide_eq_true rfl]
  (refine Zn rfl rfl rfl rfl rfl ?_)
  refine hc_st (C' := St w nowhere [Row byteE 5 g c A, Blk b6 (.cells #[.int .i64 client_1, .int .i64 seq_1, .int .i64 ack_1, .int .i64 epoch_1, .int .i64 op_1, .int .i64 id_1, .int .i64 id2_1, .int .i64 off_1, .int .i64 len_1, .string path_1, .string name_1, .string name2_1, .slice a1_1 qd_1.length c1_1] 24 (0, 0)), Blk b8 (.cells #[.int .i64 client_1, .int .i64 seq_1, .int .i64 ack_1, .int .i64 epoch_1, .int .i64 op_1, .int .i64 id_1, .int .i64 id2_1, .int .i64 off_1, .int .i64 len_1, .string path_1, .string name_1, .string name2_1, .slice a2_1 qd_1.length c2_1] 24 (0, 0)), Blk b10 (.cells #[.int .i64 pclient_1, .int .i64 pseq_1, .int .i64 pepoch_1, .int .i64 pop_1, .int .i64 status_1, .int .i64 aid_1, .int .i64 akind_1, .int .i64 asize_1, .int .i64 achange_1, .slice a3_1 pd_1.length c3_1, .slice a4_1 pes_1.length c4_1, .bool more_1] 30 (0, 0)), Blk b11 (.cells #[.int .i64 pclient_1, .int .i64 pseq_1, .int .i64 pepoch_1, .int .i64 pop_1, .int .i64 status_1, .int .i64 aid_1, .int .i64 akind_1, .int .i64 asize_1, .int .i64 achange_1, .slice a5_1 pd_1.length c5_1, .slice a6_1 pes_1.length c6_1, .bool more_1] 30 (0, 0))]) (fun _ h => by (refine St.sub ?_ h; refine .cons (.tail (.tail (.tail (.tail (.tail (.tail (.tail (.tail (.tail .head))))))))) ?_; (with_reducible refine .cons (.tail (.tail (.tail (.tail (.tail (.tail (.tail .head))))))) ?_); (with_reducible refine .cons (.tail (.tail (.tail (.tail (.tail (.tail (.tail .head))))))) ?_); (with_reducible refine .cons (.tail (.tail (.tail (.tail .head)))) ?_); (with_reducible refine .cons (.tail .head) ?_); exact .nil)) ?_
  (refine hc_seq ?_; refine Zw rfl rfl rfl rfl rfl ?_; refine hx_plain rfl ?_)
  refine h_callR rfl rfl rfl rfl rfl rfl EC.out ((lnum_spec pe_1).reads _) ?_
  (refine Zm rfl rfl rfl rfl rfl ?_; refine Zc rfl rfl rfl rfl rfl rfl rfl ?_; refine Zm rfl rfl rfl rfl rfl ?_; refine hx_gF rfl rfl rfl (by omega) ?_; (iterate 2 (refine hx_yes rfl rfl rfl ?_; refine h_move rfl rfl rfl rfl ?_; refine hx_yes rfl rfl rfl ?_; refine h_not rfl rfl rfl rfl ?_; refine Zp rfl rfl rfl rfl rfl rfl ?_; refine Zm rfl rfl rfl rfl rfl ?_)); (iterate 2 (refine hx_yes rfl rfl rfl ?_; refine h_move rfl rfl rfl rfl ?_)); refine hx_yes rfl rfl rfl ?_)
  refine h_callRd rfl rfl rfl rfl rfl rfl EC.out (fun w' h => rkind_reads (h0.but h.but) hb) ?_
  obtain ⟨kk, hkk⟩ : ∃ k, kindR bs = k := ⟨_, rfl⟩
  rw [hkk]
  by_cases hz : bs.length = 0
  · (refine hx_yes rfl rfl rfl ?_; refine h_cmp rfl rfl rfl rfl rfl rfl ?_; refine Zp rfl rfl rfl rfl rfl rfl ?_; refine Zt ?_; refine hc_condDF rfl (by omega) ?_; refine hc_skip ?_; refine hq_then ?_; refine hc_seq ?_; refine Zw rfl rfl rfl rfl rfl ?_; refine hx_plain rfl ?_; refine h_len_slice rfl rfl rfl UC.out rfl rfl rfl ?_; refine Zc rfl rfl rfl rfl rfl rfl rfl ?_; refine Zt ?_; refine hc_condDT rfl (by omega) ?_; refine Zx rfl rfl rfl rfl rfl ?_; refine hc_ret ?_; refine hq_ret_then ?_)
    exact hq_ret1 (.inr rfl) rfl rfl ⟨rfl, rfl⟩ (fun _ h => h.emp)
  obtain ⟨i, hi⟩ : ∃ i : Nat, (bs.length : Int) - 1 - (bs.length : Int) / 3 = (i : Int) := ⟨((bs.length : Int) - 1 - (bs.length : Int) / 3).toNat, by omega⟩
  have hil : i < bs.length := by omega
  obtain ⟨b, hbi⟩ : ∃ b, bs[i]? = some b := ⟨_, List.getElem?_eq_getElem hil⟩
  have e1 : A[((i : Nat) : Int).toNat]? = some b := by
    rw [← hA]
    show (bs ++ room3)[i]? = _
    rw [List.getElem?_append_left hil, hbi]
  (refine hx_yes rfl rfl rfl ?_; refine h_cmp rfl rfl rfl rfl rfl rfl ?_; refine Zp rfl rfl rfl rfl rfl rfl ?_; refine Zt ?_; refine hc_condDF rfl (by omega) ?_; refine hc_skip ?_; refine hq_then ?_; refine hc_seq ?_; refine Zw rfl rfl rfl rfl rfl ?_; refine hx_plain rfl ?_; refine h_len_slice rfl rfl rfl UC.out rfl rfl rfl ?_; refine Zc rfl rfl rfl rfl rfl rfl rfl ?_; refine Zt ?_; refine hc_condDF rfl (by omega) ?_; refine hc_skip ?_; refine hq_then ?_; refine Zw rfl rfl rfl rfl rfl ?_; refine hx_plain rfl ?_; refine h_len_slice rfl rfl rfl UC.out rfl rfl rfl ?_; refine hx_plain rfl ?_; refine h_arithI rfl rfl rfl rfl (by omega) rfl rfl ?_; refine Zm rfl rfl rfl rfl rfl ?_; refine hx_plain rfl ?_; refine h_len_slice rfl rfl rfl UC.out rfl rfl rfl ?_; refine hx_plain rfl ?_; refine h_quoI rfl rfl rfl (by omega) rfl rfl ?_; refine hx_plain rfl ?_; refine h_arithI rfl rfl rfl rfl (by omega) rfl rfl ?_; refine Zn rfl rfl rfl rfl rfl ?_; refine Zw rfl rfl rfl rfl rfl ?_; (iterate 3 (refine Zm rfl rfl rfl rfl rfl ?_)); refine hx_plain rfl ?_; refine h_rowAddr rfl rfl rfl UC.out IC.size (by omega) (by omega) rfl rfl ?_; refine hx_plain rfl ?_)
  rw [hi]
  (refine h_rowLoad1 rfl .head rfl UC.out rfl (by with_reducible assumption) rfl rfl rfl ?_; refine hx_plain rfl ?_; refine h_bits rfl rfl rfl rfl rfl rfl ?_; refine hx_plain rfl ?_; refine h_rowAddr rfl rfl rfl UC.out IC.size (by omega) (by omega) rfl rfl ?_; refine hx_plain rfl ?_)
  refine h_rowStoreN (i := i) (z := bits .xor .u8 b 16) rfl rfl rfl .head rfl rfl rfl IC.size e1 rfl rfl ?_
  have hb' : Byts (bs.set i (bits .xor .u8 b 16)) := set_byts hb (xor8 b)
  have hlen' : (bs.set i (bits .xor .u8 b 16)).length = bs.length := List.length_set ..
  have hA' : A.set i (bits .xor .u8 b 16) = bs.set i (bits .xor .u8 b 16) ++ room3 := by
    rw [← hA]
    rw [List.set_append_left _ _ hil]
  obtain ⟨L', hL'⟩ : ∃ l, bs.set i (bits .xor .u8 b 16) = l := ⟨_, rfl⟩
  rw [hL'] at hb' hlen' hA'
  obtain ⟨A2, hA2⟩ : ∃ l, A.set i (bits .xor .u8 b 16) = l := ⟨_, rfl⟩
  rw [hA2] at hA' ⊢
  have hin2 : ∀ x L M, St w nowhere L x → Pull L (Row byteE 5 g c A2) M → Rd byteE x (.slice (some ⟨g, 0, none⟩) bs.length c) L' := fun x L M h hp => by
    have := h.rdRow hp
    rw [hA'] at this
    exact rd_full this hlen'.symm
  (refine Zt ?_; refine Zw rfl rfl rfl rfl rfl ?_; refine hx_plain rfl ?_)
  refine h_callW (post := BytP L') rfl rfl rfl rfl rfl rfl rfl rfl EC.out (fun w' h => bytes_lit (hin2 w' _ _ h .head) (by omega)) ?_
  rintro u M ⟨an, cn, rfl, rfl⟩
  (refine Zn rfl rfl rfl rfl rfl ?_)
  refine hc_st (C' := St w nowhere [Blk b6 (.cells #[.int .i64 client_1, .int .i64 seq_1, .int .i64 ack_1, .int .i64 epoch_1, .int .i64 op_1, .int .i64 id_1, .int .i64 id2_1, .int .i64 off_1, .int .i64 len_1, .string path_1, .string name_1, .string name2_1, .slice a1_1 qd_1.length c1_1] 24 (0, 0)), Blk b8 (.cells #[.int .i64 client_1, .int .i64 seq_1, .int .i64 ack_1, .int .i64 epoch_1, .int .i64 op_1, .int .i64 id_1, .int .i64 id2_1, .int .i64 off_1, .int .i64 len_1, .string path_1, .string name_1, .string name2_1, .slice a2_1 qd_1.length c2_1] 24 (0, 0)), Blk b10 (.cells #[.int .i64 pclient_1, .int .i64 pseq_1, .int .i64 pepoch_1, .int .i64 pop_1, .int .i64 status_1, .int .i64 aid_1, .int .i64 akind_1, .int .i64 asize_1, .int .i64 achange_1, .slice a3_1 pd_1.length c3_1, .slice a4_1 pes_1.length c4_1, .bool more_1] 30 (0, 0)), Blk b11 (.cells #[.int .i64 pclient_1, .int .i64 pseq_1, .int .i64 pepoch_1, .int .i64 pop_1, .int .i64 status_1, .int .i64 aid_1, .int .i64 akind_1, .int .i64 asize_1, .int .i64 achange_1, .slice a5_1 pd_1.length c5_1, .slice a6_1 pes_1.length c6_1, .bool more_1] 30 (0, 0)), Row byteE 5 g c A2, RowV byteE 5 (.slice an L'.length cn) L']) (fun _ h => by (refine St.sub ?_ h; refine .cons (.tail (.tail .head)) ?_; (with_reducible refine .cons (.tail (.tail .head)) ?_); (with_reducible refine .cons (.tail (.tail .head)) ?_); (with_reducible refine .cons (.tail (.tail .head)) ?_); (with_reducible refine .cons (.tail .head) ?_); (with_reducible refine .cons .head ?_); exact .nil)) ?_
  (refine Zw rfl rfl rfl rfl rfl ?_; refine hx_plain rfl ?_)
  refine h_callW (post := DecQ (decQ L')) rfl rfl rfl rfl rfl rfl rfl rfl EC.out (fun w' h => decQ_makes (hk.but h.but) (hin2 w' _ _ h (.tail (.tail (.tail (.tail .head))))) hb') ?_
  obtain ⟨⟨⟨client_2, seq_2, ack_2, epoch_2, op_2, id_2, id2_2, off_2, len_2, path_2, name_2, name2_2, ⟨da_2, dn_2, dc_2⟩⟩, qd_2, qe_2⟩, hdq_2⟩ : ∃ d, decQ L' = d := ⟨_, rfl⟩
  rw [hdq_2]
  rintro u M ⟨a1_2, c1_2, rfl, rfl⟩
  dsimp only [ReqV.cs, SlV.v]
  (refine Zm rfl rfl rfl rfl rfl ?_; (iterate 2 (refine hx_plain rfl ?_; refine h_extract rfl rfl rfl rfl rfl ?_)); refine hx_plain rfl ?_; refine h_storeAll rfl rfl rfl rfl rfl rfl IC.size (.tail .head) rfl rfl rfl (List.all_eq_true.1 rfl) ?_; refine Zn rfl rfl rfl rfl rfl ?_; refine Zw rfl rfl rfl rfl rfl ?_; refine hx_plain rfl ?_)
  refine h_callW (post := DecQ (decQ L')) rfl rfl rfl rfl rfl rfl rfl rfl EC.out (fun w' h => rdecodeRequest_makes (h.rdRowV (xs := L') (.tail (.tail (.tail (.tail (.tail (.tail .head))))))) hb') ?_
  rw [hdq_2]
  rintro u M ⟨a2_2, c2_2, rfl, rfl⟩
  dsimp only [ReqV.cs, SlV.v]
  (refine Zm rfl rfl rfl rfl rfl ?_; (iterate 2 (refine hx_plain rfl ?_; refine h_extract rfl rfl rfl rfl rfl ?_)); refine hx_plain rfl ?_; refine h_storeAll rfl rfl rfl rfl rfl rfl IC.size (.tail (.tail (.tail .head))) rfl rfl rfl (List.all_eq_true.1 rfl) ?_; refine Zn rfl rfl rfl rfl rfl ?_; refine Zl rfl ?_)
  refine h_loadP (cs' := #[.int .i64 client_2, .int .i64 seq_2, .int .i64 ack_2, .int .i64 epoch_2, .int .i64 op_2, .int .i64 id_2, .int .i64 id2_2, .int .i64 off_2, .int .i64 len_2, .string path_2, .string name_2, .string name2_2, .slice a1_2 qd_2.length c1_2]) rfl rfl UC.out rfl IC.size (.tail (.tail .head)) rfl (by kernel_rfl) rfl rfl ?_
  (refine hx_plain rfl ?_)
  refine h_loadP (cs' := #[.int .i64 client_2, .int .i64 seq_2, .int .i64 ack_2, .int .i64 epoch_2, .int .i64 op_2, .int .i64 id_2, .int .i64 id2_2, .int .i64 off_2, .int .i64 len_2, .string path_2, .string name_2, .string name2_2, .slice a2_2 qd_2.length c2_2]) rfl rfl UC.out rfl IC.size .head rfl (by kernel_rfl) rfl rfl ?_
  (refine hx_plain rfl ?_)
  refine h_callRd (v := .bool true) rfl rfl rfl rfl rfl rfl EC.out (fun w' h => by
    have := sameRequest (a := ⟨client_2, seq_2, ack_2, epoch_2, op_2, id_2, id2_2, off_2, len_2, path_2, name_2, name2_2, ⟨a1_2, qd_2.length, c1_2⟩⟩) (b := ⟨client_2, seq_2, ack_2, epoch_2, op_2, id_2, id2_2, off_2, len_2, path_2, name_2, name2_2, ⟨a2_2, qd_2.length, c2_2⟩⟩) (da := qd_2) (db := qd_2) (h.rdRowV (.tail (.tail (.tail .head)))) (h.rdRowV (.tail .head))
    rw [sameQ_self _ _ _ rfl] at this
    exact this) ?_
  (refine Zn rfl rfl rfl rfl rfl ?_)
  refine hc_st (C' := St w nowhere [Blk b10 (.cells #[.int .i64 pclient_1, .int .i64 pseq_1, .int .i64 pepoch_1, .int .i64 pop_1, .int .i64 status_1, .int .i64 aid_1, .int .i64 akind_1, .int .i64 asize_1, .int .i64 achange_1, .slice a3_1 pd_1.length c3_1, .slice a4_1 pes_1.length c4_1, .bool more_1] 30 (0, 0)), Blk b11 (.cells #[.int .i64 pclient_1, .int .i64 pseq_1, .int .i64 pepoch_1, .int .i64 pop_1, .int .i64 status_1, .int .i64 aid_1, .int .i64 akind_1, .int .i64 asize_1, .int .i64 achange_1, .slice a5_1 pd_1.length c5_1, .slice a6_1 pes_1.length c6_1, .bool more_1] 30 (0, 0)), Row byteE 5 g c A2, RowV byteE 5 (.slice an L'.length cn) L']) (fun _ h => by (refine St.sub ?_ h; (with_reducible refine .cons (.tail (.tail (.tail (.tail .head)))) ?_); (with_reducible refine .cons (.tail (.tail (.tail (.tail .head)))) ?_); (with_reducible refine .cons (.tail (.tail (.tail (.tail .head)))) ?_); (with_reducible refine .cons (.tail (.tail (.tail (.tail .head)))) ?_); exact .nil)) ?_
  (refine hc_seq ?_; refine Zw rfl rfl rfl rfl rfl ?_; refine hx_plain rfl ?_)
  refine h_callR rfl rfl rfl rfl rfl rfl EC.out ((lnum_spec qe_2).reads _) ?_
  (refine Zm rfl rfl rfl rfl rfl ?_; refine Zc rfl rfl rfl rfl rfl rfl rfl ?_; refine Zm rfl rfl rfl rfl rfl ?_; refine hx_gF rfl rfl rfl (by omega) ?_; refine hx_yes rfl rfl rfl ?_; refine h_move rfl rfl rfl rfl ?_; refine hx_yes rfl rfl rfl ?_; refine h_not rfl rfl rfl rfl ?_; refine Zp rfl rfl rfl rfl rfl rfl ?_; refine Zt ?_; refine hc_condF rfl ?_; refine hc_skip ?_; refine hq_then ?_; refine Zw rfl rfl rfl rfl rfl ?_; refine hx_plain rfl ?_)
  refine h_callW (post := DecP (decP L')) rfl rfl rfl rfl rfl rfl rfl rfl EC.out (fun w' h => decP_makes (hk.but h.but) (hin2 w' _ _ h (.tail (.tail .head))) hb') ?_
  obtain ⟨⟨⟨pclient_2, pseq_2, pepoch_2, pop_2, status_2, aid_2, akind_2, asize_2, achange_2, ⟨pa_2, pn_2, pc_2⟩, ⟨la_2, ln_2, lc_2⟩, more_2⟩, pd_2, pes_2, pe_2⟩, hdp_2⟩ : ∃ d, decP L' = d := ⟨_, rfl⟩
  rw [hdp_2]
  rintro u M ⟨a3_2, c3_2, a4_2, c4_2, rfl, rfl⟩
  dsimp only [RepV.cs, SlV.v]
  (refine Zm rfl rfl rfl rfl rfl ?_; (iterate 2 (refine hx_plain rfl ?_; refine h_extract rfl rfl rfl rfl rfl ?_)); refine hx_plain rfl ?_; refine h_storeAll rfl rfl rfl rfl rfl rfl IC.size (.tail (.tail .head)) rfl rfl rfl (List.all_eq_true.1 rfl) ?_; refine Zn rfl rfl rfl rfl rfl ?_; refine Zw rfl rfl rfl rfl rfl ?_; refine hx_plain rfl ?_)
  refine h_callW (post := DecP (decP L')) rfl rfl rfl rfl rfl rfl rfl rfl EC.out (fun w' h => rdecodeReply_makes (h.rdRowV (xs := L') (.tail (.tail (.tail (.tail (.tail .head)))))) hb') ?_
  rw [hdp_2]
  rintro u M ⟨a5_2, c5_2, a6_2, c6_2, rfl, rfl⟩
  dsimp only [RepV.cs, SlV.v]
  (refine Zm rfl rfl rfl rfl rfl ?_; (iterate 2 (refine hx_plain rfl ?_; refine h_extract rfl rfl rfl rfl rfl ?_)); refine hx_plain rfl ?_; refine h_storeAll rfl rfl rfl rfl rfl rfl IC.size (.tail (.tail (.tail (.tail (.tail .head))))) rfl rfl rfl (List.all_eq_true.1 rfl) ?_; refine Zn rfl rfl rfl rfl rfl ?_; refine Zl rfl ?_)
  refine h_loadP (cs' := #[.int .i64 pclient_2, .int .i64 pseq_2, .int .i64 pepoch_2, .int .i64 pop_2, .int .i64 status_2, .int .i64 aid_2, .int .i64 akind_2, .int .i64 asize_2, .int .i64 achange_2, .slice a3_2 pd_2.length c3_2, .slice a4_2 pes_2.length c4_2, .bool more_2]) rfl rfl UC.out rfl IC.size (.tail (.tail (.tail .head))) rfl (by kernel_rfl) rfl rfl ?_
  (refine hx_plain rfl ?_)
  refine h_loadP (cs' := #[.int .i64 pclient_2, .int .i64 pseq_2, .int .i64 pepoch_2, .int .i64 pop_2, .int .i64 status_2, .int .i64 aid_2, .int .i64 akind_2, .int .i64 asize_2, .int .i64 achange_2, .slice a5_2 pd_2.length c5_2, .slice a6_2 pes_2.length c6_2, .bool more_2]) rfl rfl UC.out rfl IC.size .head rfl (by kernel_rfl) rfl rfl ?_
  (refine hx_plain rfl ?_)
  refine h_callRd (v := .bool true) rfl rfl rfl rfl rfl rfl EC.out (fun w' h => by
    have := sameReply (a := ⟨pclient_2, pseq_2, pepoch_2, pop_2, status_2, aid_2, akind_2, asize_2, achange_2, ⟨a3_2, pd_2.length, c3_2⟩, ⟨a4_2, pes_2.length, c4_2⟩, more_2⟩) (b := ⟨pclient_2, pseq_2, pepoch_2, pop_2, status_2, aid_2, akind_2, asize_2, achange_2, ⟨a5_2, pd_2.length, c5_2⟩, ⟨a6_2, pes_2.length, c6_2⟩, more_2⟩) (da := pd_2) (db := pd_2) (ea := pes_2) (eb := pes_2) (h.rdRowV (.tail (.tail (.tail (.tail .head))))) (h.rdRowV (.tail .head)) (h.rdRowV (.tail (.tail (.tail (.tail (.tail .head)))))) (h.rdRowV (.tail (.tail .head)))
    rw [sameP_self _ _ _ _ rfl] at this
    exact this) ?_
  (refine Zn rfl rfl rfl rfl rfl ?_; refine Zw rfl rfl rfl rfl rfl ?_; refine hx_plain rfl ?_)
  refine h_callR rfl rfl rfl rfl rfl rfl EC.out ((lnum_spec pe_2).reads _) ?_
  (refine Zm rfl rfl rfl rfl rfl ?_; refine Zc rfl rfl rfl rfl rfl rfl rfl ?_; refine Zm rfl rfl rfl rfl rfl ?_; refine hx_gT rfl rfl rfl (by omega) ?_; refine hx_yes rfl rfl rfl ?_; refine h_move rfl rfl rfl rfl ?_; refine Zq rfl rfl rfl rfl rfl rfl ?_; refine Zn rfl rfl rfl rfl rfl ?_; refine hc_ret ?_)
  exact hq_ret1 (.inr rfl) rfl rfl ⟨rfl, rfl⟩ (fun _ h => h.emp)
end Go.Proofs.YtfolhmlldoepfaaGreatDoor
