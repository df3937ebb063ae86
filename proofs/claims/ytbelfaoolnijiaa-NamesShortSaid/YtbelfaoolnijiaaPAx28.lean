-- Printed by a program of this session over the kit's print (some functions are told by hand). Not trusted: Lean checks it.
import Derived.Test.YtbelfaoolnijiaaPAx0
import Derived.Test.YtbelfaoolnijiaaPAx1
namespace Go.Proofs.Ytbelfaoolnijiaa.PA
open Go.RowKit Go.Proofs.Ytbelfaoolnijiaa Go.Proofs.YtbelfaoolnijiaaW.PrintWords Go.Proofs.YtbelfaoolnijiaaW.PrintLast Go.Proofs.YtbelfaoolnijiaaW.PrintMore
attribute [local go_sem] max2_int min2_int max_two min_two max_three min_three max_four min_four   -- for this text's walks alone
set_option linter.unusedVariables false
set_option linter.unusedSimpArgs false

/-! ### annexlaw3_okay: function 25 -/
def annexlaw3_okay.f (a0 : Int) : Option (Bool) := (annexlaw3_num.f a0).bind fun t282 => (some (t282 == 0))
set_option maxHeartbeats 8000000 in
set_option maxRecDepth 100000 in
theorem annexlaw3_okay.calls (a0 : Int) (r : Bool) (w : World) (h : annexlaw3_okay.f a0 = some r) :
    Calls Try.prog 25 #[.int .i64 a0] w fun e w' => e = .returned (.bool r) ∧ Drawn0 w w' := by
  have H : ((annexlaw3_num.f a0).bind fun t282 => (some (t282 == 0))) = some r := h
  clear h
  replace H := Option.bind_eq_some_iff.mp H
  obtain ⟨t282, A20, H⟩ := H
  replace H : (some (t282 == 0)) = some r := H
  have A2 := Aside0.mk A20
  clear A20
  obtain rfl := Option.some.inj H
  go_enter Try.func25, Try.ntmps25
  go_wp2_with (first | ((with_reducible refine gate_callee (f := 15) rfl ?_); refine goesL_ (some 4) rfl rfl Try.func15 (by kernel_rfl) rfl #[.int .i64 a0] rfl (by (try simp only [List.map_toArray, List.map_cons, List.map_nil]); first | done | rfl | (simp only [List.length_drop, List.length_take]; rfl)) ?_; (with_reducible refine (annexlaw3_num.calls a0 t282 _ A2.out).mono ?_); rintro e w' ⟨rfl, ⟨nd, rfl⟩⟩; refine ⟨_, rfl, ?_⟩))
  go_ret
  exact ⟨by first | rfl | (simp; done) | (simp [*]; done), by repeat (first | exact Drawn0.refl _ | apply Drawn0.step)⟩

end Go.Proofs.Ytbelfaoolnijiaa.PA
