import Derived.Test.YtmdkboojafbpcaaDoorBt2
namespace Go.Proofs.YtmdkboojafbpcaaDoor
open Go Go.Proofs
set_option maxRecDepth 4000

def stepS (h x : Int) : Int := IntKind.u64.wrap (bits .xor .u64 h (IntKind.u64.wrap x) * 1099511628211)
def sumR (h : Int) (bs : List Int) : Int := bs.foldl stepS h
abbrev off0 : Int := 14695981039346656037
theorem sumR_succ {h : Int} {bs : List Int} {i : Nat} (hi : i < bs.length) : sumR h (bs.take (i + 1)) = stepS (sumR h (bs.take i)) bs[i] := by
  rw [List.take_succ_eq_append_getElem hi, sumR, List.foldl_append]
  rfl
theorem step_spec (h x : Int) : Spec0 Tryd.prog 58 [.int .u64 h, .int .u8 x] (.int .u64 (stepS h x)) := by
  refine spec_of Tryd.func58 rfl rfl (Nat.le_of_ble_eq_true rfl) (fun w F => ?_)
  (refine hc_seq ?_; refine hc_lex ?_; refine hx_plain rfl ?_; refine h_assign rfl rfl rfl rfl ?_; refine hx_nil ?_; refine hq_then ?_; refine hc_seq ?_; refine hc_lex ?_; refine hx_plain rfl ?_; refine h_move rfl rfl rfl rfl ?_; refine hx_plain rfl ?_; refine h_move rfl rfl rfl rfl ?_; refine hx_plain rfl ?_; refine h_convInt rfl rfl UC.out UC.out rfl rfl ?_; refine hx_plain rfl ?_; refine h_bits rfl rfl rfl rfl rfl rfl ?_; refine hx_plain rfl ?_; refine h_arith rfl rfl rfl rfl rfl rfl ?_; refine hx_plain rfl ?_; refine h_assign rfl rfl rfl rfl ?_; refine hx_nil ?_; refine hq_then ?_; refine hc_ret ?_)
  exact hq_ret1 (.inr rfl) rfl rfl ⟨rfl, rfl⟩ (fun _ h => h.emp)
set_option maxHeartbeats 1000000 in
theorem more_reads {bs : List Int} {w : World} {v : Value} (h : Int) (h1 : Rd byteE w v bs) :
    Calls Tryd.prog 51 [.int .u64 h, v].toArray w (fun en w' => en = .returned (.int .u64 (sumR h bs)) ∧ But w w' nowhere) := by
  obtain ⟨a1, c1, rfl, l1, m1, k1⟩ := h1
  unfold maxLen at m1
  refine reads_of Tryd.func51 rfl rfl (Nat.le_of_ble_eq_true rfl) ?_
  (refine hc_seq ?_; refine hc_lex ?_; refine hx_plain rfl ?_; refine h_assign rfl rfl rfl rfl ?_; refine hx_nil ?_; refine hq_then ?_; refine hc_seq ?_; refine hc_seq ?_; refine hc_lex ?_; refine hx_plain rfl ?_; refine h_move rfl rfl rfl rfl ?_; refine hx_plain rfl ?_; refine h_len_slice rfl rfl rfl UC.out rfl rfl rfl ?_; refine hx_plain rfl ?_; refine h_move rfl rfl rfl rfl ?_; refine hx_nil ?_; refine hq_then ?_; refine hc_block ?_)
  refine hc_cut (id := 0) (Y := Unit) (fun _ => [(0, .int .u64 (sumR h bs))]) (fun _ => []) (fun _ => True) ?_ ?_
  · refine hc_loop (X := Nat) (fun i => [(0, .int .u64 (sumR h (bs.take i))), (7, .slice a1 bs.length c1), (8, .int .i64 (bs.length : Int)), (9, .int .i64 (i : Int))]) (fun _ => []) (fun i => i ≤ bs.length) (fun i => bs.length - i) 0 (.cons rfl (.cons rfl (.cons rfl (.cons rfl .nil)))) (Nat.zero_le _) (fun _ h => h) ?_
    intro i hi
    by_cases hlt : i < bs.length
    · have hx : bs ≠ [] := by
        intro e
        rw [e] at hlt
        exact absurd hlt (Nat.not_lt_zero _)
      obtain ⟨g1, o1, rfl, r1⟩ := k1.resolve_left hx
      have e1 : bs[((i : Nat) : Int).toNat]? = some bs[i] := List.getElem?_eq_getElem hlt
      (refine hc_seq ?_; refine hc_lex ?_; refine hx_plain rfl ?_; refine h_cmp rfl rfl rfl rfl rfl rfl ?_; refine hx_nil ?_; refine hq_then ?_; refine hc_seq ?_; refine hc_condDT rfl (by omega) ?_; refine hc_skip ?_; refine hq_then ?_; refine hc_seq ?_; refine hc_block ?_; refine hc_seq ?_; refine hc_lex ?_; refine hx_plain rfl ?_; refine h_indexAddr rfl rfl rfl UC.out IC.size (by omega) (by omega) rfl rfl ?_; refine hx_plain rfl ?_; refine h_rdLoad1 rfl r1 rfl UC.out rfl (by with_reducible assumption) rfl rfl rfl ?_; refine hx_plain rfl ?_; refine h_assign rfl rfl rfl rfl ?_; refine hx_nil ?_; refine hq_then ?_; refine hc_lex ?_; refine hx_plain rfl ?_; refine h_move rfl rfl rfl rfl ?_; refine hx_plain rfl ?_; refine h_move rfl rfl rfl rfl ?_; refine hx_plain rfl ?_)
      refine h_callR rfl rfl rfl rfl rfl rfl EC.out ((step_spec (sumR h (bs.take i)) bs[i]).reads _) ?_
      (refine hx_plain rfl ?_; refine h_assign rfl rfl rfl rfl ?_; refine hx_nil ?_; refine hq_norm_block ?_; refine hq_then ?_; refine hc_lex ?_; refine hx_plain rfl ?_; refine h_arithI rfl rfl rfl rfl (by omega) rfl rfl ?_; refine hx_plain rfl ?_; refine h_move rfl rfl rfl rfl ?_; refine hx_nil ?_)
      refine hq_round (i + 1) (by omega) (by omega) (.cons ?_ (.cons rfl (.cons rfl (.cons rfl .nil)))) (fun _ h => h)
      rw [sumR_succ hlt]
      rfl
    · (refine hc_seq ?_; refine hc_lex ?_; refine hx_plain rfl ?_; refine h_cmp rfl rfl rfl rfl rfl rfl ?_; refine hx_nil ?_; refine hq_then ?_; refine hc_seq ?_; refine hc_condDF rfl (by omega) ?_; refine hc_exit ?_; refine hq_exit_then ?_; refine hq_exit_then ?_)
      refine hq_cut () trivial (.cons ?_ .nil) (fun _ h => h)
      rw [List.take_of_length_le (by omega)]
      rfl
  · rintro ⟨⟩ _
    (refine hq_exit_block ?_; refine hq_then ?_; refine hc_seq ?_; refine hc_lex ?_; refine hx_plain rfl ?_; refine h_move rfl rfl rfl rfl ?_; refine hx_plain rfl ?_; refine h_assign rfl rfl rfl rfl ?_; refine hx_nil ?_; refine hq_then ?_; refine hc_ret ?_)
    exact hq_ret1 (.inr rfl) rfl rfl ⟨rfl, rfl⟩ (fun _ h => h.emp)
theorem sum_reads {bs : List Int} {w : World} {v : Value} (h1 : Rd byteE w v bs) :
    Calls Tryd.prog 37 [v].toArray w (fun en w' => en = .returned (.int .u64 (sumR off0 bs)) ∧ But w w' nowhere) := by
  refine reads_of Tryd.func37 rfl rfl (Nat.le_of_ble_eq_true rfl) ?_
  (refine hc_seq ?_; refine hc_lex ?_; refine hx_plain rfl ?_; refine h_assign rfl rfl rfl rfl ?_; refine hx_nil ?_; refine hq_then ?_; refine hc_seq ?_; refine hc_lex ?_; refine hx_plain rfl ?_; refine h_move rfl rfl rfl rfl ?_; refine hx_plain rfl ?_)
  refine h_callRd rfl rfl rfl rfl rfl rfl EC.out (fun w' h => more_reads off0 (h.rd h1)) ?_
  (refine hx_plain rfl ?_; refine h_assign rfl rfl rfl rfl ?_; refine hx_nil ?_; refine hq_then ?_; refine hc_ret ?_)
  exact hq_ret1 (.inr rfl) rfl rfl ⟨rfl, rfl⟩ (fun _ h => h.emp)

/-! ### The reader -/
/-- Its bytes, its place, the place of the call under way, its error. -/
def rdrB (p : Nat) (v : Value) (at_ nx er : Int) : Asn := Blk p (.cells #[v, .int .i64 at_, .int .i64 nx, .int .i64 er] 85)
def RdrO (p : Nat) (bs : List Int) (at_ nx er : Int) : Asn := Ex fun x : Nat × Nat => All [rdrB p (.slice (some ⟨x.1, 0, none⟩) bs.length x.2) at_ nx er, Row byteE 5 x.1 x.2 bs]
theorem RdrO_open {p : Nat} {bs : List Int} {at_ nx er : Int} (w w0 : World) (F0 : Nat → Prop) (R : List Asn) (h : St w0 F0 (RdrO p bs at_ nx er :: R) w) : ∃ x : Nat × Nat, St w0 F0 ([rdrB p (.slice (some ⟨x.1, 0, none⟩) bs.length x.2) at_ nx er, Row byteE 5 x.1 x.2 bs] ++ R) w := by
  obtain ⟨x, hx⟩ := St.ex.1 h
  exact ⟨x, St.all.1 hx⟩
theorem RdrO_shut {p g c : Nat} {bs : List Int} {at_ nx er : Int} {w w0 : World} {F0 : Nat → Prop} {R : List Asn} (h : St w0 F0 (rdrB p (.slice (some ⟨g, 0, none⟩) bs.length c) at_ nx er :: Row byteE 5 g c bs :: R) w) : St w0 F0 (RdrO p bs at_ nx er :: R) w :=
  St.ex.2 ⟨(g, c), St.all.2 h⟩
set_option maxHeartbeats 1000000 in
theorem newReader_makes {bs : List Int} {w : World} {v : Value} (h1 : Rd byteE w v bs) (hl : bs.length ≤ 1099511627776) :
    Makes Tryd.prog 42 [v] w (fun u M => ∃ p, u = .pointer (some ⟨p, 0, none⟩) ∧ M = [RdrO p bs 0 0 0]) := by
  refine makes_of Tryd.func42 rfl rfl (Nat.le_of_ble_eq_true rfl) ?_
  (refine hc_seq ?_; refine hc_lex ?_; refine hx_plain rfl ?_; refine h_assign rfl rfl rfl rfl ?_; refine hx_nil ?_; refine hq_then ?_; refine hc_seq ?_; refine hc_lex ?_; refine hx_plain rfl ?_; refine h_move rfl rfl rfl rfl ?_; refine hx_plain rfl ?_)
  refine h_callW (post := fun u M => ∃ g, u = .slice (some ⟨g, 0, none⟩) bs.length (bs.length + 0) ∧ M = [Row byteE 5 g (bs.length + 0) bs]) rfl rfl rfl rfl rfl rfl rfl rfl EC.out (fun w' h => fresh_makes 0 (h.rd h1) (by omega)) ?_
  rintro u M ⟨g, rfl, rfl⟩
  (refine hx_plain rfl ?_; refine h_build rfl inferInstance rfl rfl rfl rfl ?_; refine hx_plain rfl ?_; (refine h_box rfl rfl rfl rfl rfl rfl (fun _ => ?_)); refine hx_plain rfl ?_; refine h_assign rfl rfl rfl rfl ?_; refine hx_nil ?_; refine hq_then ?_; refine hc_ret ?_)
  rename_i p
  exact hq_ret1 (.inr rfl) rfl rfl ⟨p, rfl, rfl⟩ (fun _ h => RdrO_shut h)
theorem begin_spec (p : Nat) (v : Value) (at_ nx er : Int) :
    Spec Tryd.prog 54 [.pointer (some ⟨p, 0, none⟩)] [rdrB p v at_ nx er] (fun u M => u = .bool (decide (er = 0)) ∧ M = [rdrB p v at_ at_ er]) := by
  refine spec_of Tryd.func54 rfl rfl (Nat.le_of_ble_eq_true rfl) (fun w F => ?_)
  unfold rdrB
  (refine hc_seq ?_; refine hc_lex ?_; refine hx_plain rfl ?_; refine h_assign rfl rfl rfl rfl ?_; refine hx_nil ?_; refine hq_then ?_; refine hc_seq ?_; refine hc_lex ?_; refine hx_plain rfl ?_; refine h_move rfl rfl rfl rfl ?_; refine hx_plain rfl ?_; refine h_move rfl rfl rfl rfl ?_; refine hx_plain rfl ?_; refine h_nilCheck rfl rfl rfl rfl ?_; refine hx_plain rfl ?_; refine h_fieldAddr0 rfl rfl FC.out rfl rfl ?_; refine hx_plain rfl ?_; refine h_load rfl rfl UC.out rfl .head rfl rfl rfl ?_; refine hx_plain rfl ?_; refine h_nilCheck rfl rfl rfl rfl ?_; refine hx_plain rfl ?_; refine h_fieldAddr0 rfl rfl FC.out rfl rfl ?_; refine hx_plain rfl ?_; refine h_store rfl rfl rfl rfl rfl rfl IC.size .head rfl rfl (Nat.le_of_ble_eq_true rfl) (List.all_eq_true.1 rfl) ?_; refine hx_nil ?_; refine hq_then ?_; refine hc_seq ?_; refine hc_lex ?_; refine hx_plain rfl ?_; refine h_move rfl rfl rfl rfl ?_; refine hx_plain rfl ?_; refine h_nilCheck rfl rfl rfl rfl ?_; refine hx_plain rfl ?_; refine h_fieldAddr0 rfl rfl FC.out rfl rfl ?_; refine hx_plain rfl ?_; refine h_load rfl rfl UC.out rfl .head rfl rfl rfl ?_; refine hx_plain rfl ?_; refine h_cmp rfl rfl rfl rfl rfl rfl ?_; refine hx_plain rfl ?_; refine h_assign rfl rfl rfl rfl ?_; refine hx_nil ?_; refine hq_then ?_; refine hc_ret ?_)
  exact hq_ret1 (.inr rfl) rfl rfl ⟨rfl, rfl⟩ (fun _ h => h)
theorem give_true (e : Int) : Spec0 Tryd.prog 57 [.bool true, .int .i64 e] (.tuple #[]) := by
  refine spec_of Tryd.func57 rfl rfl (Nat.le_of_ble_eq_true rfl) (fun w F => ?_)
  (refine hc_seq ?_; refine hc_lex ?_; refine hx_plain rfl ?_; refine h_move rfl rfl rfl rfl ?_; refine hx_plain rfl ?_; refine h_not rfl rfl rfl rfl ?_; refine hx_nil ?_; refine hq_then ?_; refine hc_condF rfl ?_; refine hc_skip ?_)
  exact hq_ret0 (.inl rfl) rfl ⟨rfl, rfl⟩ (fun _ h => h.emp)
end Go.Proofs.YtmdkboojafbpcaaDoor
