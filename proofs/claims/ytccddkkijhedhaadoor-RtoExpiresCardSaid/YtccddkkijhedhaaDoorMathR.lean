import Derived.Test.YtccddkkijhedhaaDoorMathA
import Derived.Test.YtccddkkijhedhaaDoorPAx11
namespace Go.Proofs.YtccddkkijhedhaaDoor.Pure
open Go.RowKit Go.Proofs.YtccddkkijhedhaaDoor Go.Proofs.YtccddkkijhedhaaDoor.PA

theorem refRight_f (a b c : Int) : annexref17_Right.f a b c = some (pmB a b c) := by
  simp only [annexref17_Right.f]
  repeat' split
  all_goals (congr 1; rw [Bool.eq_iff_iff, pmB_iff]; simp; try omega)
theorem refStart_f (a b c : Int) : annexref17_Start.f a b c = some (if pmB a b c = true then (0, 0, b, 0, false, 0) else (0, 0, 0, 0, false, 1)) := by
  simp only [annexref17_Start.f, refRight_f, Option.bind_some]
  split <;> rfl
end Go.Proofs.YtccddkkijhedhaaDoor.Pure
