import Derived.Test.YtjnnlfeohbidhaaDoorBt4
import Derived.Test.YtjnnlfeohbidhaaDoorNm1
import Derived.Test.YtjnnlfeohbidhaaDoorAs7
namespace Go.Proofs.YtjnnlfeohbidhaaDoor
open Go Go.Proofs Go.RowKit
set_option maxRecDepth 4000

abbrev pan (e : Int) : List PanicEntry := [{ v := trb e, recovered := false }]
theorem ta_err (v : Value) (w : World) : (Instr.typeAssert (.iface 87 v) 20 85 true).run Tryd.prog w = .ok (.tuple #[.iface 87 v, .bool true]) w := run_typeAssert_hasB Tryd.underlying85 (by kernel_rfl) v _ w
/-- give, where it gives up. -/
theorem give_panic {b : Bool} (e : Int) (hb : b = false) : SpecP Tryd.prog 54 [.bool b, .int .i64 e] [] (fun ch M => ch = pan e ∧ M = []) := by
  subst hb
  refine specP_of Tryd.func54 rfl rfl (Nat.le_of_ble_eq_true rfl) (fun w F => ?_)
  refine hc_seq ?_
  refine hc_lex ?_
  (refine hx_plain rfl ?_; refine h_move rfl rfl rfl rfl ?_; refine hx_plain rfl ?_; refine h_not rfl rfl rfl rfl ?_; refine hx_nil ?_; refine hq_then ?_)
  refine hc_condT rfl ?_
  refine hc_panic [_, _, _] rfl rfl ?_
  (refine hx_plain rfl ?_; refine h_move rfl rfl rfl rfl ?_; refine hx_plain rfl ?_; refine h_build rfl inferInstance rfl rfl rfl rfl ?_; refine hx_plain rfl ?_)
  refine h_makeInterface rfl rfl UC.out rfl rfl rfl ?_
  (refine hx_nil ?_)
  exact ⟨_, _, rfl, hq_pan ⟨rfl, rfl⟩ (fun _ h => h)⟩
set_option maxHeartbeats 1000000 in
/-- The end of a call that has given up. -/
theorem end_panic (p : Nat) (v : Value) (at_ nx e : Int) (E : Addr) (g : Nat) :
    SpecDP Tryd.prog (gl E) g 50 [.pointer (some ⟨p, 0, none⟩)] (pan e) [rdrB p v at_ nx 0] (fun u M => u = .tuple #[] ∧ M = [rdrB p v at_ nx e]) := by
  refine specDP_recover Tryd.func50 rfl rfl (Nat.le_of_ble_eq_true rfl) rfl rfl rfl rfl (fun w F hI hF => ?_)
  unfold rdrB
  (refine hc_block ?_; refine hc_seq ?_; refine hc_lex ?_; refine hx_plain rfl ?_)
  refine h_eqIf rfl rfl rfl rfl (eq_nilA _ _) rfl rfl ?_
  (refine hx_nil ?_; refine hq_then ?_; refine hc_condF rfl ?_; refine hc_seq ?_; refine hc_lex ?_; refine hx_plain rfl ?_)
  refine h_typeAssert rfl rfl rfl (ta_err _) rfl rfl ?_
  (refine hx_plain rfl ?_; refine h_extract rfl rfl rfl rfl rfl ?_; refine hx_plain rfl ?_; refine h_extract rfl rfl rfl rfl rfl ?_; refine hx_nil ?_; refine hq_then ?_; refine hc_condT rfl ?_; refine hc_seq ?_; refine hc_lex ?_; refine hx_plain rfl ?_; refine h_assign rfl rfl rfl rfl ?_; refine hx_nil ?_; refine hq_then ?_; refine hc_seq ?_; refine hc_lex ?_; refine hx_plain rfl ?_; (refine h_alloc rfl rfl IC.zero rfl rfl rfl (fun _ => ?_)); refine hx_nil ?_; refine hq_then ?_; refine hc_seq ?_; refine hc_seq ?_; refine hc_lex ?_; refine hx_plain rfl ?_; refine h_move rfl rfl rfl rfl ?_; refine hx_plain rfl ?_)
  rename_i t
  refine h_gload hI hF rfl rfl (.head _) rfl UC.out rfl rfl rfl ?_
  (refine hx_plain rfl ?_)
  refine h_callI hI hF rfl rfl rfl rfl rfl rfl rfl rfl EC.out .nil (isT_spec e E g) ?_
  rintro u M ⟨rfl, rfl⟩
  (refine hx_plain rfl ?_; refine h_not rfl rfl rfl rfl ?_; refine hx_plain rfl ?_; refine h_move rfl rfl rfl rfl ?_; refine hx_yes rfl rfl rfl ?_; refine h_move rfl rfl rfl rfl ?_; refine hx_yes rfl rfl rfl ?_)
  refine h_makeInterface rfl rfl UC.out rfl rfl rfl ?_
  (refine hx_yes rfl rfl rfl ?_)
  refine h_callI hI hF rfl rfl rfl rfl rfl rfl rfl rfl EC.out (.cons .head .nil) (asT_spec e t _ E g) ?_
  rintro u M ⟨rfl, rfl⟩
  (refine hx_yes rfl rfl rfl ?_; refine h_not rfl rfl rfl rfl ?_; refine hx_plain rfl ?_; refine h_pickF rfl rfl rfl rfl rfl ?_; refine hx_nil ?_; refine hq_then ?_; refine hc_condF rfl ?_; refine hc_skip ?_; refine hq_then ?_; refine hc_lex ?_; refine hx_plain rfl ?_; refine h_move rfl rfl rfl rfl ?_; refine hx_plain rfl ?_; refine h_fieldAddr0 rfl rfl FC.out rfl rfl ?_; refine hx_plain rfl ?_; refine h_load rfl rfl UC.out rfl .head rfl rfl rfl ?_; refine hx_plain rfl ?_; refine h_nilCheck rfl rfl rfl rfl ?_; refine hx_plain rfl ?_; refine h_fieldAddr0 rfl rfl FC.out rfl rfl ?_; refine hx_plain rfl ?_; refine h_store rfl rfl rfl rfl rfl rfl IC.size (.tail .head) rfl rfl (Nat.le_of_ble_eq_true rfl) (List.all_eq_true.1 rfl) ?_; refine hx_nil ?_; refine hq_norm_block ?_)
  exact hq_ret0 (.inl rfl) rfl ⟨rfl, rfl⟩ (fun _ h => h.sub (.cons .head .nil))
/-- The end of a call at a reader that has an error. -/
theorem end_err (p : Nat) (v : Value) (at_ nx e : Int) (he : e ≠ 0) :
    SpecD Tryd.prog 50 [.pointer (some ⟨p, 0, none⟩)] [rdrB p v at_ nx e] (fun u M => u = .tuple #[] ∧ M = [rdrB p v at_ nx e]) := by
  refine specD_recover Tryd.func50 rfl rfl (Nat.le_of_ble_eq_true rfl) rfl rfl rfl rfl (fun w F => ?_)
  unfold rdrB
  (refine hc_block ?_; refine hc_seq ?_; refine hc_lex ?_; refine hx_plain rfl ?_)
  refine h_eqIface rfl rfl UC.out rfl rfl ?_
  (refine hx_nil ?_; refine hq_then ?_; refine hc_condT rfl ?_; refine hc_seq ?_; refine hc_lex ?_; refine hx_plain rfl ?_; refine h_assign rfl rfl rfl rfl ?_; refine hx_nil ?_; refine hq_then ?_; refine hc_seq ?_; refine hc_lex ?_; refine hx_plain rfl ?_; refine h_move rfl rfl rfl rfl ?_; refine hx_plain rfl ?_; refine h_nilCheck rfl rfl rfl rfl ?_; refine hx_plain rfl ?_; refine h_fieldAddr0 rfl rfl FC.out rfl rfl ?_; refine hx_plain rfl ?_; refine h_load rfl rfl UC.out rfl .head rfl rfl rfl ?_; refine hx_plain rfl ?_; refine h_cmp rfl rfl rfl rfl rfl rfl ?_; refine hx_nil ?_; refine hq_then ?_; refine hc_condDF rfl (by omega) ?_; refine hc_skip ?_; refine hq_norm_block ?_)
  exact hq_ret0 (.inl rfl) rfl ⟨rfl, rfl⟩ (fun _ h => h)
set_option maxHeartbeats 1000000 in
/-- take, where there are not so many bytes. -/
theorem take_panic (p g c : Nat) (bs : List Int) (at_ er : Int) (nx n : Nat) (hn : bs.length < nx + n) (hl : bs.length ≤ 140737488355200) (hnx : nx ≤ 140737488355328) :
    SpecP Tryd.prog 53 [.pointer (some ⟨p, 0, none⟩), .int .i64 (n : Int)] [rdrB p (.slice (some ⟨g, 0, none⟩) bs.length c) at_ (nx : Int) er, Row byteE 5 g c bs]
      (fun ch M => ch = pan 11 ∧ M = [rdrB p (.slice (some ⟨g, 0, none⟩) bs.length c) at_ (nx : Int) er, Row byteE 5 g c bs]) := by
  refine specP_of Tryd.func53 rfl rfl (Nat.le_of_ble_eq_true rfl) (fun w F => ?_)
  unfold rdrB
  refine hc_seq ?_
  refine hc_lex ?_
  (refine hx_plain rfl ?_; refine h_assign rfl rfl rfl rfl ?_; refine hx_nil ?_; refine hq_then ?_)
  refine hc_seq ?_
  refine hc_drawP (f := 54) [_, _, _, _, _, _, _, _, _, _, _, _] rfl rfl rfl EC.out (by kernel_rfl) (by kernel_rfl) (panQ_then panQ) ?_
  (refine hx_plain rfl ?_; refine h_move rfl rfl rfl rfl ?_; refine hx_plain rfl ?_; refine h_move rfl rfl rfl rfl ?_; refine hx_plain rfl ?_; refine h_nilCheck rfl rfl rfl rfl ?_; refine hx_plain rfl ?_; refine h_fieldAddr0 rfl rfl FC.out rfl rfl ?_; refine hx_plain rfl ?_; refine h_load rfl rfl UC.out rfl .head rfl rfl rfl ?_; refine hx_plain rfl ?_; refine h_len_slice rfl rfl rfl UC.out rfl rfl rfl ?_; refine hx_plain rfl ?_; refine h_move rfl rfl rfl rfl ?_; refine hx_plain rfl ?_; refine h_nilCheck rfl rfl rfl rfl ?_; refine hx_plain rfl ?_; refine h_fieldAddr0 rfl rfl FC.out rfl rfl ?_; refine hx_plain rfl ?_; refine h_load rfl rfl UC.out rfl .head rfl rfl rfl ?_; refine hx_plain rfl ?_; refine h_arithI rfl rfl rfl rfl (by omega) rfl rfl ?_; refine hx_plain rfl ?_; refine h_cmp rfl rfl rfl rfl rfl rfl ?_; refine hx_nil ?_)
  intro _
  refine PanicAt.mk rfl rfl .nil (give_panic 11 (decide_eq_false (show ¬ (n : Int) ≤ (bs.length : Int) - (nx : Int) by omega))) ?_
  rintro ch M ⟨rfl, rfl⟩
  refine hq_panic_then ?_
  exact hq_pan ⟨rfl, rfl⟩ (fun _ h => h)
/-- How many zeros stand behind n bytes. -/
def padN (n : Nat) : Nat := (4 - n % 4) % 4
theorem padN_lt (n : Nat) : padN n < 4 := Nat.mod_lt _ (by decide)
theorem padding_spec (n : Nat) (hn : n ≤ 140737488355200) : Spec0 Tryd.prog 64 [.int .i64 (n : Int)] (.int .i64 (padN n : Int)) := by
  refine spec_of Tryd.func64 rfl rfl (Nat.le_of_ble_eq_true rfl) (fun w F => ?_)
  have hm : (n : Int) % 4 = ((n % 4 : Nat) : Int) := by omega
  have h4 : n % 4 < 4 := Nat.mod_lt _ (by decide)
  (refine hc_seq ?_; refine hc_lex ?_; refine hx_plain rfl ?_; refine h_assign rfl rfl rfl rfl ?_; refine hx_nil ?_; refine hq_then ?_; refine hc_seq ?_; refine hc_lex ?_; refine hx_plain rfl ?_; refine h_move rfl rfl rfl rfl ?_; refine hx_plain rfl ?_; refine h_remI rfl rfl rfl (by omega) rfl rfl ?_; refine hx_plain rfl ?_; refine h_arithI rfl rfl rfl rfl (by omega) rfl rfl ?_; refine hx_plain rfl ?_; refine h_remI rfl rfl rfl (by omega) rfl rfl ?_; refine hx_plain rfl ?_; refine h_assign rfl rfl rfl rfl ?_; refine hx_nil ?_; refine hq_then ?_; refine hc_ret ?_)
  refine hq_ret1 (.inr rfl) rfl rfl ⟨?_, rfl⟩ (fun _ h => h.emp)
  show Value.int .i64 _ = _
  congr 1
  unfold padN
  omega

/-! ### The body of a text or of bytes -/
theorem wrapI_in {x : Int} (h : -9223372036854775808 ≤ x ∧ x ≤ 9223372036854775807) : IntKind.i64.wrap x = x := by
  simp only [IntKind.wrap, IntKind.signed, IntKind.bits]
  simp
  omega
/-- The number at the place, of four bytes. -/
def N4 (bs : List Int) (at_ : Nat) : Int := IntKind.i64.wrap (numR ((bs.drop at_).take 4))
theorem byts_sub {bs : List Int} (h : Byts bs) (i n : Nat) : Byts ((bs.drop i).take n) := fun x hx => h x (List.mem_of_mem_drop (List.mem_of_mem_take hx))
theorem N4_eq {bs : List Int} (h : Byts bs) (at_ : Nat) : N4 bs at_ = numR ((bs.drop at_).take 4) ∧ 0 ≤ N4 bs at_ ∧ N4 bs at_ < 4294967296 := by
  obtain ⟨h1, h2, h3⟩ := numR_eq (byts_sub h at_ 4) (by rw [List.length_take]; omega)
  have h4 : (256 : Int) ^ ((bs.drop at_).take 4).length ≤ 256 ^ 4 := pow256_le (by rw [List.length_take]; omega)
  have h5 : (256 : Int) ^ 4 = 4294967296 := by decide
  have h6 : IntKind.i64.wrap (numR ((bs.drop at_).take 4)) = numR ((bs.drop at_).take 4) := wrapI_in (by omega)
  unfold N4
  rw [h6]
  exact ⟨rfl, by omega, by omega⟩
/-- The length of the field's bytes. -/
def NB (bs : List Int) (at_ : Nat) : Nat := (N4 bs at_).toNat
def padsOf (bs : List Int) (at_ : Nat) : List Int := (bs.drop (at_ + 4 + NB bs at_)).take (padN (NB bs at_))
/-- The error of body, 0 where there is none. -/
def bodyE (bs : List Int) (at_ : Nat) (most : Int) : Int :=
  if bs.length < at_ + 4 then 11 else if ¬ N4 bs at_ ≤ most then 14 else if bs.length < at_ + 4 + NB bs at_ then 11 else if bs.length < at_ + 4 + NB bs at_ + padN (NB bs at_) then 11 else if ∀ x ∈ padsOf bs at_, x = 0 then 0 else 15
theorem h_byteLoad {P : Program} {n : Nat} {ds : List Deferred} {ops : Array Oper} {ev wk : Nat → Bool} {K : Env → (World → Prop) → Prop} {r : List Oper} {o : Oper} {k : Nat} {e : Env} {w0 : World} {F0 : Nat → Prop} {L L' : List Asn} {T g cap : Nat} {xs : List Int}
    {t a : Nat} {x : Operand} {d : TypeDesc} {y : Int} (ho : o.op = .load t x) (hp : Pull L (Row byteE T g cap xs) L') (hx : e.op x = some (.pointer (some ⟨g, a, none⟩))) (hu : P.underlying t = some d) (hna : aggD d = false)
    (hi : xs[a]? = some y) {dd : Nat} (hdst : o.dst = some dd) (hd : okD n (some dd) = true) (h : HX P n ds ops ev wk K r (k + 1) ((dd, .int .u8 y) :: e) (St w0 F0 L)) : HX1 P n ds ops ev wk K o r k e (St w0 F0 L) :=
  h_rowLoad (i := a) (j := 0) ho hp (by rw [hx, Nat.add_zero]; show _ = some (Value.pointer (some ⟨g, a * 1, none⟩)); rw [Nat.mul_one]) hu hna hi rfl hdst hd h
theorem subV_at {g c i n : Nat} (h : i < c) : subV g c i n = .slice (some ⟨g, i, none⟩) n (c - i) := by
  unfold subV
  rw [if_neg (by omega), Nat.zero_add, Nat.mul_one]
end Go.Proofs.YtjnnlfeohbidhaaDoor
