import Derived.Test.YtjnnlfeohbidhaaDoorBt2
namespace Go.Proofs.YtjnnlfeohbidhaaDoor
open Go Go.Proofs
set_option maxRecDepth 4000

/-! ### The reader -/
/-- Its bytes, its place, the place of the call under way, its error. -/
def rdrB (p : Nat) (v : Value) (at_ nx er : Int) : Asn := Blk p (.cells #[v, .int .i64 at_, .int .i64 nx, .int .i64 er] 75)
def RdrO (p : Nat) (bs : List Int) (at_ nx er : Int) : Asn := Ex fun x : Nat × Nat => All [rdrB p (.slice (some ⟨x.1, 0, none⟩) bs.length x.2) at_ nx er, Row byteE 5 x.1 x.2 bs]
theorem RdrO_open {p : Nat} {bs : List Int} {at_ nx er : Int} (w w0 : World) (F0 : Nat → Prop) (R : List Asn) (h : St w0 F0 (RdrO p bs at_ nx er :: R) w) : ∃ x : Nat × Nat, St w0 F0 ([rdrB p (.slice (some ⟨x.1, 0, none⟩) bs.length x.2) at_ nx er, Row byteE 5 x.1 x.2 bs] ++ R) w := by
  obtain ⟨x, hx⟩ := St.ex.1 h
  exact ⟨x, St.all.1 hx⟩
theorem RdrO_shut {p g c : Nat} {bs : List Int} {at_ nx er : Int} {w w0 : World} {F0 : Nat → Prop} {R : List Asn} (h : St w0 F0 (rdrB p (.slice (some ⟨g, 0, none⟩) bs.length c) at_ nx er :: Row byteE 5 g c bs :: R) w) : St w0 F0 (RdrO p bs at_ nx er :: R) w :=
  St.ex.2 ⟨(g, c), St.all.2 h⟩
set_option maxHeartbeats 1000000 in
theorem newReader_makes {bs : List Int} {w : World} {v : Value} (h1 : Rd byteE w v bs) (hl : bs.length ≤ 140737488355200) :
    Makes Tryd.prog 25 [v] w (fun u M => ∃ p, u = .pointer (some ⟨p, 0, none⟩) ∧ M = [RdrO p bs 0 0 0]) := by
  refine makes_of Tryd.func25 rfl rfl (Nat.le_of_ble_eq_true rfl) ?_
  (refine hc_seq ?_; refine hc_lex ?_; refine hx_plain rfl ?_; refine h_assign rfl rfl rfl rfl ?_; refine hx_nil ?_; refine hq_then ?_; refine hc_seq ?_; refine hc_lex ?_; refine hx_plain rfl ?_; refine h_move rfl rfl rfl rfl ?_; refine hx_plain rfl ?_)
  refine h_callW (post := fun u M => ∃ g, u = .slice (some ⟨g, 0, none⟩) bs.length (bs.length + 0) ∧ M = [Row byteE 5 g (bs.length + 0) bs]) rfl rfl rfl rfl rfl rfl rfl rfl EC.out (fun w' h => fresh_makes 0 (h.rd h1) (by omega)) ?_
  rintro u M ⟨g, rfl, rfl⟩
  (refine hx_plain rfl ?_; refine h_build rfl inferInstance rfl rfl rfl rfl ?_; refine hx_plain rfl ?_; (refine h_box rfl rfl rfl rfl rfl rfl (fun _ => ?_)); refine hx_plain rfl ?_; refine h_assign rfl rfl rfl rfl ?_; refine hx_nil ?_; refine hq_then ?_; refine hc_ret ?_)
  rename_i p
  exact hq_ret1 (.inr rfl) rfl rfl ⟨p, rfl, rfl⟩ (fun _ h => RdrO_shut h)
theorem begin_spec (p : Nat) (v : Value) (at_ nx er : Int) :
    Spec Tryd.prog 51 [.pointer (some ⟨p, 0, none⟩)] [rdrB p v at_ nx er] (fun u M => u = .bool (decide (er = 0)) ∧ M = [rdrB p v at_ at_ er]) := by
  refine spec_of Tryd.func51 rfl rfl (Nat.le_of_ble_eq_true rfl) (fun w F => ?_)
  unfold rdrB
  (refine hc_seq ?_; refine hc_lex ?_; refine hx_plain rfl ?_; refine h_assign rfl rfl rfl rfl ?_; refine hx_nil ?_; refine hq_then ?_; refine hc_seq ?_; refine hc_lex ?_; refine hx_plain rfl ?_; refine h_move rfl rfl rfl rfl ?_; refine hx_plain rfl ?_; refine h_move rfl rfl rfl rfl ?_; refine hx_plain rfl ?_; refine h_nilCheck rfl rfl rfl rfl ?_; refine hx_plain rfl ?_; refine h_fieldAddr0 rfl rfl FC.out rfl rfl ?_; refine hx_plain rfl ?_; refine h_load rfl rfl UC.out rfl .head rfl rfl rfl ?_; refine hx_plain rfl ?_; refine h_nilCheck rfl rfl rfl rfl ?_; refine hx_plain rfl ?_; refine h_fieldAddr0 rfl rfl FC.out rfl rfl ?_; refine hx_plain rfl ?_; refine h_store rfl rfl rfl rfl rfl rfl IC.size .head rfl rfl (Nat.le_of_ble_eq_true rfl) (List.all_eq_true.1 rfl) ?_; refine hx_nil ?_; refine hq_then ?_; refine hc_seq ?_; refine hc_lex ?_; refine hx_plain rfl ?_; refine h_move rfl rfl rfl rfl ?_; refine hx_plain rfl ?_; refine h_nilCheck rfl rfl rfl rfl ?_; refine hx_plain rfl ?_; refine h_fieldAddr0 rfl rfl FC.out rfl rfl ?_; refine hx_plain rfl ?_; refine h_load rfl rfl UC.out rfl .head rfl rfl rfl ?_; refine hx_plain rfl ?_; refine h_cmp rfl rfl rfl rfl rfl rfl ?_; refine hx_plain rfl ?_; refine h_assign rfl rfl rfl rfl ?_; refine hx_nil ?_; refine hq_then ?_; refine hc_ret ?_)
  exact hq_ret1 (.inr rfl) rfl rfl ⟨rfl, rfl⟩ (fun _ h => h)
theorem give_true (e : Int) : Spec0 Tryd.prog 54 [.bool true, .int .i64 e] (.tuple #[]) := by
  refine spec_of Tryd.func54 rfl rfl (Nat.le_of_ble_eq_true rfl) (fun w F => ?_)
  (refine hc_seq ?_; refine hc_lex ?_; refine hx_plain rfl ?_; refine h_move rfl rfl rfl rfl ?_; refine hx_plain rfl ?_; refine h_not rfl rfl rfl rfl ?_; refine hx_nil ?_; refine hq_then ?_; refine hc_condF rfl ?_; refine hc_skip ?_)
  exact hq_ret0 (.inl rfl) rfl ⟨rfl, rfl⟩ (fun _ h => h.emp)
end Go.Proofs.YtjnnlfeohbidhaaDoor
