import Derived.Test.YtmdkboojafbpcaaDoorRp2
namespace Go.Proofs.YtmdkboojafbpcaaDoor
open Go Go.Proofs
set_option maxRecDepth 4000

set_option maxHeartbeats 8000000 in
theorem plans_law {w : World} (hw : CelAt 0 bndL w) (s : Shp) : Calls Tryd.prog 3 [s.v].toArray w (fun en w' => en = .returned (.bool true) ∧ But w w' nowhere) := by
  refine Makes.reads (makes_of Tryd.func3 rfl rfl (Nat.le_of_ble_eq_true rfl) ?_)
  obtain ⟨pl, hpl⟩ : ∃ pl, planR s = pl := ⟨_, rfl⟩
  have hr := rplan_spec s
  rw [hpl] at hr
  obtain ⟨ly, er⟩ := pl
  (refine hc_seq ?_; refine hc_lex ?_; refine hx_plain rfl ?_; (refine h_box rfl rfl rfl rfl rfl rfl (fun _ => ?_)); refine hx_plain rfl ?_; refine h_assign rfl rfl rfl rfl ?_; refine hx_nil ?_; refine hq_then ?_; refine hc_seq ?_; refine hc_lex ?_; refine hx_plain rfl ?_)
  refine h_callRd rfl rfl rfl rfl rfl rfl EC.out (fun w' h => first_reads (h.celAt hw)) ?_
  (refine hx_plain rfl ?_; refine h_assign rfl rfl rfl rfl ?_; refine hx_nil ?_; refine hq_then ?_; refine hc_seq ?_; refine hc_seq ?_; refine hc_lex ?_; refine hx_plain rfl ?_; refine h_move rfl rfl rfl rfl ?_; refine hx_plain rfl ?_; refine h_not rfl rfl rfl rfl ?_; refine hx_nil ?_; refine hq_then ?_; refine hc_condF rfl ?_; refine hc_skip ?_; refine hq_then ?_; refine hc_seq ?_; refine hc_lex ?_; refine hx_plain rfl ?_; refine h_loadP rfl rfl UC.out rfl IC.size .head rfl rfl rfl rfl ?_; refine hx_plain rfl ?_)
  refine h_callRd rfl rfl rfl rfl rfl rfl EC.out (fun w' h => plan_makes (h.celAt hw) s) ?_
  rw [hpl]
  dsimp only
  (refine hx_plain rfl ?_; refine h_move rfl rfl rfl rfl ?_; refine hx_plain rfl ?_; refine h_extract rfl rfl rfl rfl rfl ?_; refine hx_plain rfl ?_; refine h_extract rfl rfl rfl rfl rfl ?_; refine hx_plain rfl ?_; (refine h_alloc rfl rfl IC.zero rfl rfl rfl (fun _ => ?_)); refine hx_plain rfl ?_; refine h_storeAll rfl rfl rfl rfl rfl rfl IC.size .head rfl rfl rfl (List.all_eq_true.1 rfl) ?_; refine hx_plain rfl ?_; refine h_assign rfl rfl rfl rfl ?_; refine hx_nil ?_; refine hq_then ?_; refine hc_seq ?_; refine hc_lex ?_; refine hx_plain rfl ?_; refine h_loadP rfl rfl UC.out rfl IC.size (.tail .head) rfl rfl rfl rfl ?_; refine hx_plain rfl ?_)
  refine h_callR rfl rfl rfl rfl rfl rfl EC.out (hr.reads _) ?_
  dsimp only
  (refine hx_plain rfl ?_; refine h_move rfl rfl rfl rfl ?_; refine hx_plain rfl ?_; refine h_extract rfl rfl rfl rfl rfl ?_; refine hx_plain rfl ?_; refine h_extract rfl rfl rfl rfl rfl ?_; refine hx_plain rfl ?_; (refine h_alloc rfl rfl IC.zero rfl rfl rfl (fun _ => ?_)); refine hx_plain rfl ?_; refine h_storeAll rfl rfl rfl rfl rfl rfl IC.size .head rfl rfl rfl (List.all_eq_true.1 rfl) ?_; refine hx_plain rfl ?_; refine h_assign rfl rfl rfl rfl ?_; refine hx_nil ?_; refine hq_then ?_; refine hc_seq ?_; refine hc_lex ?_; refine hx_plain rfl ?_; refine h_loadP rfl rfl UC.out rfl IC.size (.tail .head) rfl rfl rfl rfl ?_; refine hx_plain rfl ?_; refine h_loadP rfl rfl UC.out rfl IC.size .head rfl rfl rfl rfl ?_; refine hx_plain rfl ?_)
  refine h_callR rfl rfl rfl rfl rfl rfl EC.out ((sameLayout_spec ly ly).reads _) ?_
  rw [decide_eq_true rfl]
  (refine hx_plain rfl ?_; refine h_assign rfl rfl rfl rfl ?_; refine hx_nil ?_; refine hq_then ?_; refine hc_seq ?_; refine hc_lex ?_; refine hx_plain rfl ?_; refine h_move rfl rfl rfl rfl ?_; refine hx_plain rfl ?_; refine h_move rfl rfl rfl rfl ?_; refine hx_yes rfl rfl rfl ?_; refine h_move rfl rfl rfl rfl ?_; refine hx_yes rfl rfl rfl ?_)
  refine h_callR rfl rfl rfl rfl rfl rfl EC.out ((num_spec er).reads _) ?_
  (refine hx_yes rfl rfl rfl ?_; refine h_move rfl rfl rfl rfl ?_; refine hx_yes rfl rfl rfl ?_; refine h_cmp rfl rfl rfl rfl rfl rfl ?_; refine hx_plain rfl ?_; refine h_pickT rfl rfl rfl rfl rfl ?_; refine hx_plain rfl ?_; refine h_assign rfl rfl rfl rfl ?_; refine hx_nil ?_; refine hq_then ?_; refine hc_ret ?_)
  exact hq_ret1 (.inr rfl) rfl rfl ⟨by rw [decide_eq_true rfl], rfl⟩ (fun _ h => h.emp)
end Go.Proofs.YtmdkboojafbpcaaDoor
