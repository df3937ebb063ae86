import Derived.Test.YtjnnlfeohbidhaaDoorBt3
namespace Go.Proofs.YtjnnlfeohbidhaaDoor
open Go Go.Proofs
set_option maxRecDepth 4000

/-- The part of a reader's array from the place i on, n bytes. -/
def subV (g c i n : Nat) : Value := .slice (some ⟨g, if c = i then 0 else 0 + i * 1, none⟩) n (c - i)
theorem St.rdSub {g c i n : Nat} {bs : List Int} {w0 : World} {F0 : Nat → Prop} {L L' : List Asn} {w : World} (h : St w0 F0 L w) (hp : Pull L (Row byteE 5 g c bs) L') (hi : i + n ≤ bs.length) : Rd byteE w (subV g c i n) ((bs.drop i).take n) := by
  have h1 := (h.rdRow hp).sub (i := i) (j := i + n) (by omega) hi
  rw [show i + n - i = n by omega] at h1
  exact h1
set_option maxHeartbeats 1000000 in
theorem take_spec (p g c : Nat) (bs : List Int) (at_ er : Int) (nx n : Nat) (hn : nx + n ≤ bs.length) (hc : bs.length ≤ c) (hl : bs.length ≤ 140737488355200) :
    Spec Tryd.prog 53 [.pointer (some ⟨p, 0, none⟩), .int .i64 (n : Int)] [rdrB p (.slice (some ⟨g, 0, none⟩) bs.length c) at_ (nx : Int) er, Row byteE 5 g c bs]
      (fun u M => u = subV g c nx n ∧ M = [rdrB p (.slice (some ⟨g, 0, none⟩) bs.length c) at_ ((nx : Int) + (n : Int)) er, Row byteE 5 g c bs]) := by
  refine spec_of Tryd.func53 rfl rfl (Nat.le_of_ble_eq_true rfl) (fun w F => ?_)
  unfold rdrB
  (refine hc_seq ?_; refine hc_lex ?_; refine hx_plain rfl ?_; refine h_assign rfl rfl rfl rfl ?_; refine hx_nil ?_; refine hq_then ?_; refine hc_seq ?_; refine hc_draw0 (by kernel_rfl) (by kernel_rfl) ?_; refine hx_plain rfl ?_; refine h_move rfl rfl rfl rfl ?_; refine hx_plain rfl ?_; refine h_move rfl rfl rfl rfl ?_; refine hx_plain rfl ?_; refine h_nilCheck rfl rfl rfl rfl ?_; refine hx_plain rfl ?_; refine h_fieldAddr0 rfl rfl FC.out rfl rfl ?_; refine hx_plain rfl ?_; refine h_load rfl rfl UC.out rfl .head rfl rfl rfl ?_; refine hx_plain rfl ?_; refine h_len_slice rfl rfl rfl UC.out rfl rfl rfl ?_; refine hx_plain rfl ?_; refine h_move rfl rfl rfl rfl ?_; refine hx_plain rfl ?_; refine h_nilCheck rfl rfl rfl rfl ?_; refine hx_plain rfl ?_; refine h_fieldAddr0 rfl rfl FC.out rfl rfl ?_; refine hx_plain rfl ?_; refine h_load rfl rfl UC.out rfl .head rfl rfl rfl ?_; refine hx_plain rfl ?_; refine h_arithI rfl rfl rfl rfl (by omega) rfl rfl ?_; refine hx_plain rfl ?_; refine h_cmp rfl rfl rfl rfl rfl rfl ?_; refine hx_plain rfl ?_)
  rw [decide_eq_true (show (n : Int) ≤ (bs.length : Int) - (nx : Int) by omega)]
  refine h_callR rfl rfl rfl rfl rfl rfl EC.out ((give_true 11).reads _) ?_
  (refine hx_nil ?_; refine hq_then ?_; refine hc_seq ?_; refine hc_draw0 (by kernel_rfl) (by kernel_rfl) ?_; refine hx_plain rfl ?_; refine h_move rfl rfl rfl rfl ?_; refine hx_plain rfl ?_; refine h_nilCheck rfl rfl rfl rfl ?_; refine hx_plain rfl ?_; refine h_fieldAddr0 rfl rfl FC.out rfl rfl ?_; refine hx_plain rfl ?_; refine h_load rfl rfl UC.out rfl .head rfl rfl rfl ?_; refine hx_plain rfl ?_; refine h_move rfl rfl rfl rfl ?_; refine hx_plain rfl ?_; refine h_nilCheck rfl rfl rfl rfl ?_; refine hx_plain rfl ?_; refine h_fieldAddr0 rfl rfl FC.out rfl rfl ?_; refine hx_plain rfl ?_; refine h_load rfl rfl UC.out rfl .head rfl rfl rfl ?_; refine hx_plain rfl ?_; refine h_move rfl rfl rfl rfl ?_; refine hx_plain rfl ?_; refine h_nilCheck rfl rfl rfl rfl ?_; refine hx_plain rfl ?_; refine h_fieldAddr0 rfl rfl FC.out rfl rfl ?_; refine hx_plain rfl ?_; refine h_load rfl rfl UC.out rfl .head rfl rfl rfl ?_; refine hx_plain rfl ?_; refine h_move rfl rfl rfl rfl ?_; refine hx_plain rfl ?_; refine h_arithI rfl rfl rfl rfl (by omega) rfl rfl ?_; refine hx_plain rfl ?_)
  have e1 : (nx : Int) + (n : Int) = ((nx + n : Nat) : Int) := by omega
  rw [e1]
  refine h_cut nx (nx + n) rfl rfl rfl rfl UC.out IC.size (by omega) rfl rfl ?_
  rw [show nx + n - nx = n by omega, ← e1]
  (refine hx_plain rfl ?_; refine h_assign rfl rfl rfl rfl ?_; refine hx_nil ?_; refine hq_then ?_; refine hc_seq ?_; refine hc_lex ?_; refine hx_plain rfl ?_; refine h_move rfl rfl rfl rfl ?_; refine hx_plain rfl ?_; refine h_nilCheck rfl rfl rfl rfl ?_; refine hx_plain rfl ?_; refine h_fieldAddr0 rfl rfl FC.out rfl rfl ?_; refine hx_plain rfl ?_; refine h_load rfl rfl UC.out rfl .head rfl rfl rfl ?_; refine hx_plain rfl ?_; refine h_move rfl rfl rfl rfl ?_; refine hx_plain rfl ?_; refine h_arithI rfl rfl rfl rfl (by omega) rfl rfl ?_; refine hx_plain rfl ?_; refine h_nilCheck rfl rfl rfl rfl ?_; refine hx_plain rfl ?_; refine h_fieldAddr0 rfl rfl FC.out rfl rfl ?_; refine hx_plain rfl ?_; refine h_store rfl rfl rfl rfl rfl rfl IC.size .head rfl rfl (Nat.le_of_ble_eq_true rfl) (List.all_eq_true.1 rfl) ?_; refine hx_nil ?_; refine hq_then ?_; refine hc_seq ?_; refine hc_lex ?_; refine hx_plain rfl ?_; refine h_move rfl rfl rfl rfl ?_; refine hx_plain rfl ?_; refine h_assign rfl rfl rfl rfl ?_; refine hx_nil ?_; refine hq_then ?_; refine hc_ret ?_)
  exact hq_ret1 (.inr rfl) rfl rfl ⟨rfl, rfl⟩ (fun _ h => h)
/-- The end of a call that has not given up. -/
theorem end_spec (p : Nat) (v : Value) (at_ nx : Int) :
    SpecD Tryd.prog 50 [.pointer (some ⟨p, 0, none⟩)] [rdrB p v at_ nx 0] (fun u M => u = .tuple #[] ∧ M = [rdrB p v nx nx 0]) := by
  refine specD_recover Tryd.func50 rfl rfl (Nat.le_of_ble_eq_true rfl) rfl rfl rfl rfl (fun w F => ?_)
  unfold rdrB
  (refine hc_block ?_; refine hc_seq ?_; refine hc_lex ?_; refine hx_plain rfl ?_)
  refine h_eqIface rfl rfl UC.out rfl rfl ?_
  (refine hx_nil ?_; refine hq_then ?_; refine hc_condT rfl ?_; refine hc_seq ?_; refine hc_lex ?_; refine hx_plain rfl ?_; refine h_assign rfl rfl rfl rfl ?_; refine hx_nil ?_; refine hq_then ?_; refine hc_seq ?_; refine hc_lex ?_; refine hx_plain rfl ?_; refine h_move rfl rfl rfl rfl ?_; refine hx_plain rfl ?_; refine h_nilCheck rfl rfl rfl rfl ?_; refine hx_plain rfl ?_; refine h_fieldAddr0 rfl rfl FC.out rfl rfl ?_; refine hx_plain rfl ?_; refine h_load rfl rfl UC.out rfl .head rfl rfl rfl ?_; refine hx_plain rfl ?_; refine h_cmp rfl rfl rfl rfl rfl rfl ?_; refine hx_nil ?_; refine hq_then ?_; refine hc_condT rfl ?_; refine hc_lex ?_; refine hx_plain rfl ?_; refine h_move rfl rfl rfl rfl ?_; refine hx_plain rfl ?_; refine h_move rfl rfl rfl rfl ?_; refine hx_plain rfl ?_; refine h_nilCheck rfl rfl rfl rfl ?_; refine hx_plain rfl ?_; refine h_fieldAddr0 rfl rfl FC.out rfl rfl ?_; refine hx_plain rfl ?_; refine h_load rfl rfl UC.out rfl .head rfl rfl rfl ?_; refine hx_plain rfl ?_; refine h_nilCheck rfl rfl rfl rfl ?_; refine hx_plain rfl ?_; refine h_fieldAddr0 rfl rfl FC.out rfl rfl ?_; refine hx_plain rfl ?_; refine h_store rfl rfl rfl rfl rfl rfl IC.size .head rfl rfl (Nat.le_of_ble_eq_true rfl) (List.all_eq_true.1 rfl) ?_; refine hx_nil ?_; refine hq_norm_block ?_)
  exact hq_ret0 (.inl rfl) rfl ⟨rfl, rfl⟩ (fun _ h => h)
set_option maxHeartbeats 1000000 in
theorem u32_spec (p : Nat) (bs : List Int) (at_ : Nat) (nx : Int) (most : Int) (hn : at_ + 4 ≤ bs.length) (hl : bs.length ≤ 140737488355200) (hm : IntKind.i64.wrap (numR ((bs.drop at_).take 4)) ≤ most) :
    Spec Tryd.prog 31 [.pointer (some ⟨p, 0, none⟩), .int .i64 most] [RdrO p bs (at_ : Int) nx 0]
      (fun u M => u = .int .i64 (IntKind.i64.wrap (numR ((bs.drop at_).take 4))) ∧ M = [RdrO p bs ((at_ + 4 : Nat) : Int) ((at_ + 4 : Nat) : Int) 0]) := by
  refine spec_ofD Tryd.func31 rfl rfl (Nat.le_of_ble_eq_true rfl) (fun w F => ?_)
  refine hc_open .head RdrO_open ?_
  rintro ⟨g, c⟩
  dsimp only
  refine hc_know (fun _ h => (h.perm (Pull.tail .head).perm).row_le.1) (fun hc => ?_)
  refine hc_seq ?_
  refine hc_lex ?_
  (refine hx_plain rfl ?_; refine h_assign rfl rfl rfl rfl ?_; refine hx_nil ?_; refine hq_then ?_)
  refine hc_seq ?_
  refine hc_defer (f := 50) (l1 := [_]) rfl rfl rfl rfl ?_
  (refine hx_plain rfl ?_; refine h_move rfl rfl rfl rfl ?_; refine hx_nil ?_)
  refine ⟨_, _, rfl, rfl, ?_⟩
  (refine hq_then ?_; refine hc_seq ?_; refine hc_seq ?_; refine hc_lex ?_; refine hx_plain rfl ?_; refine h_move rfl rfl rfl rfl ?_; refine hx_plain rfl ?_)
  refine h_call rfl rfl rfl rfl rfl rfl rfl rfl EC.out (.cons .head .nil) (begin_spec p _ _ _ _) ?_
  rintro u M ⟨rfl, rfl⟩
  (refine hx_nil ?_; refine hq_then ?_; refine hc_condT rfl ?_; refine hc_seq ?_; refine hc_lex ?_; refine hx_plain rfl ?_; refine h_move rfl rfl rfl rfl ?_; refine hx_plain rfl ?_)
  refine h_call rfl rfl rfl rfl rfl rfl rfl rfl EC.out (.cons .head (.cons .head .nil)) (take_spec p g c bs _ _ at_ 4 hn hc hl) ?_
  rintro u M ⟨rfl, rfl⟩
  (refine hx_plain rfl ?_)
  refine h_callRd rfl rfl rfl rfl rfl rfl EC.out (fun w' h => number_reads (h.rdSub (.tail .head) hn)) ?_
  (refine hx_plain rfl ?_; refine h_convInt rfl rfl UC.out UC.out rfl rfl ?_; refine hx_plain rfl ?_; refine h_assign rfl rfl rfl rfl ?_; refine hx_nil ?_; refine hq_then ?_; refine hc_seq ?_; refine hc_lex ?_; refine hx_plain rfl ?_; refine h_move rfl rfl rfl rfl ?_; refine hx_plain rfl ?_; refine h_move rfl rfl rfl rfl ?_; refine hx_plain rfl ?_; refine h_cmp rfl rfl rfl rfl rfl rfl ?_; refine hx_plain rfl ?_)
  rw [decide_eq_true hm]
  refine h_callR rfl rfl rfl rfl rfl rfl EC.out ((give_true 12).reads _) ?_
  (refine hx_nil ?_; refine hq_then ?_; refine hc_lex ?_; refine hx_plain rfl ?_; refine h_move rfl rfl rfl rfl ?_; refine hx_plain rfl ?_; refine h_assign rfl rfl rfl rfl ?_; refine hx_nil ?_; refine hq_then ?_; refine hc_seq ?_; refine hc_lex ?_; refine hx_plain rfl ?_; refine h_move rfl rfl rfl rfl ?_; refine hx_plain rfl ?_; refine h_assign rfl rfl rfl rfl ?_; refine hx_nil ?_; refine hq_then ?_; refine hc_ret ?_)
  refine hq_retD1 (.inr rfl) rfl EC.out (.cons .head .nil) (end_spec p _ _ _) ?_
  rintro u M ⟨rfl, rfl⟩
  refine ⟨_, [RdrO p bs ((at_ + 4 : Nat) : Int) ((at_ + 4 : Nat) : Int) 0], rv_tmp rfl, ⟨rfl, rfl⟩, fun _ h => ?_⟩
  refine RdrO_shut (g := g) (c := c) ?_
  exact h
set_option maxHeartbeats 1000000 in
theorem rsum_spec (p : Nat) (bs : List Int) (at_ : Nat) (nx : Int) (hn : at_ + 8 ≤ bs.length) (hl : bs.length ≤ 140737488355200) :
    Spec Tryd.prog 35 [.pointer (some ⟨p, 0, none⟩)] [RdrO p bs (at_ : Int) nx 0]
      (fun u M => u = .int .u64 (numR ((bs.drop at_).take 8)) ∧ M = [RdrO p bs ((at_ + 8 : Nat) : Int) ((at_ + 8 : Nat) : Int) 0]) := by
  refine spec_ofD Tryd.func35 rfl rfl (Nat.le_of_ble_eq_true rfl) (fun w F => ?_)
  refine hc_open .head RdrO_open ?_
  rintro ⟨g, c⟩
  dsimp only
  refine hc_know (fun _ h => (h.perm (Pull.tail .head).perm).row_le.1) (fun hc => ?_)
  refine hc_seq ?_
  refine hc_lex ?_
  (refine hx_plain rfl ?_; refine h_assign rfl rfl rfl rfl ?_; refine hx_nil ?_; refine hq_then ?_)
  refine hc_seq ?_
  refine hc_defer (f := 50) (l1 := [_]) rfl rfl rfl rfl ?_
  (refine hx_plain rfl ?_; refine h_move rfl rfl rfl rfl ?_; refine hx_nil ?_)
  refine ⟨_, _, rfl, rfl, ?_⟩
  (refine hq_then ?_; refine hc_seq ?_; refine hc_seq ?_; refine hc_lex ?_; refine hx_plain rfl ?_; refine h_move rfl rfl rfl rfl ?_; refine hx_plain rfl ?_)
  refine h_call rfl rfl rfl rfl rfl rfl rfl rfl EC.out (.cons .head .nil) (begin_spec p _ _ _ _) ?_
  rintro u M ⟨rfl, rfl⟩
  (refine hx_nil ?_; refine hq_then ?_; refine hc_condT rfl ?_; refine hc_lex ?_; refine hx_plain rfl ?_; refine h_move rfl rfl rfl rfl ?_; refine hx_plain rfl ?_)
  refine h_call rfl rfl rfl rfl rfl rfl rfl rfl EC.out (.cons .head (.cons .head .nil)) (take_spec p g c bs _ _ at_ 8 hn hc hl) ?_
  rintro u M ⟨rfl, rfl⟩
  (refine hx_plain rfl ?_)
  refine h_callRd rfl rfl rfl rfl rfl rfl EC.out (fun w' h => number_reads (h.rdSub (.tail .head) hn)) ?_
  (refine hx_plain rfl ?_; refine h_assign rfl rfl rfl rfl ?_; refine hx_nil ?_; refine hq_then ?_; refine hc_seq ?_; refine hc_lex ?_; refine hx_plain rfl ?_; refine h_move rfl rfl rfl rfl ?_; refine hx_plain rfl ?_; refine h_assign rfl rfl rfl rfl ?_; refine hx_nil ?_; refine hq_then ?_; refine hc_ret ?_)
  refine hq_retD1 (.inr rfl) rfl EC.out (.cons .head .nil) (end_spec p _ _ _) ?_
  rintro u M ⟨rfl, rfl⟩
  refine ⟨_, [RdrO p bs ((at_ + 8 : Nat) : Int) ((at_ + 8 : Nat) : Int) 0], rv_tmp rfl, ⟨rfl, rfl⟩, fun _ h => ?_⟩
  refine RdrO_shut (g := g) (c := c) ?_
  exact h
end Go.Proofs.YtjnnlfeohbidhaaDoor
