import Derived.Test.YtmdkboojafbpcaaDoorPl2
namespace Go.Proofs.YtmdkboojafbpcaaDoor
open Go Go.Proofs
set_option maxRecDepth 4000
abbrev smallS : Shp := ⟨2, 4, 4, 8, 16, 8192, 80, 27⟩
abbrev smallL : Lyt := ⟨1, 2, 27, 29, 25, 54, 1, 55, 4, 59, 80, 139, smallS⟩
set_option maxHeartbeats 1000000 in
theorem small_spec : Spec0 Tryd.prog 25 [] (.tuple #[smallS.v, smallL.v]) := by
  refine spec_of Tryd.func25 rfl rfl (Nat.le_of_ble_eq_true rfl) (fun w F => ?_)
  (refine hc_seq ?_; refine hc_lex ?_; refine hx_plain rfl ?_; (refine h_alloc rfl rfl IC.zero rfl rfl rfl (fun _ => ?_)); refine hx_plain rfl ?_; (refine h_alloc rfl rfl IC.zero rfl rfl rfl (fun _ => ?_)); refine hx_nil ?_; refine hq_then ?_; refine hc_seq ?_; refine hc_lex ?_; refine hx_plain rfl ?_; refine h_build rfl inferInstance rfl rfl rfl rfl ?_; refine hx_plain rfl ?_; (refine h_alloc rfl rfl IC.zero rfl rfl rfl (fun _ => ?_)); refine hx_plain rfl ?_; refine h_storeAll rfl rfl rfl rfl rfl rfl IC.size .head rfl rfl rfl (List.all_eq_true.1 rfl) ?_; refine hx_nil ?_; refine hq_then ?_; refine hc_seq ?_)
  rename_i b0 b1 b2
  refine hc_drawD2 (D := fun x => St w F [Blk b2 (.cells smallS.cs 23)] x) [0, 1, 2] [3, 4] (by kernel_rfl) (by kernel_rfl) rfl (fun x h => h.sub (.cons .head .nil)) rfl ?_
  (refine hx_plain rfl ?_; refine h_loadP rfl rfl UC.out rfl IC.size .head rfl rfl rfl rfl ?_; refine hx_plain rfl ?_; refine h_loadP rfl rfl UC.out rfl IC.size .head rfl rfl rfl rfl ?_; refine hx_plain rfl ?_; refine h_build rfl inferInstance rfl rfl rfl rfl ?_; refine hx_nil ?_)
  refine hd_store rfl rfl rfl rfl rfl rfl IC.size (.tail (.tail .head)) rfl rfl (Nat.le_of_ble_eq_true rfl) (List.all_eq_true.1 rfl) (fun x h => h.sub (.cons (.tail .head) .nil)) ?_
  refine hd_store rfl rfl rfl rfl rfl rfl IC.size (.tail (.tail .head)) rfl rfl (Nat.le_of_ble_eq_true rfl) (List.all_eq_true.1 rfl) (fun x h => h.sub (.cons (.tail (.tail .head)) .nil)) ?_
  refine hd_nil ?_
  (refine hq_then ?_; refine hc_ret ?_)
  exact hq_R2 (.inr rfl) rfl (rv_cell rfl (.tail .head) UC.out rfl IC.size) (rv_cell rfl .head UC.out rfl IC.size) ⟨rfl, rfl⟩ (fun _ h => h.emp)
end Go.Proofs.YtmdkboojafbpcaaDoor
