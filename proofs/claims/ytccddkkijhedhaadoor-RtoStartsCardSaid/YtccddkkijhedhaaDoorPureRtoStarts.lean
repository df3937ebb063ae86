import Derived.Test.YtccddkkijhedhaaDoorMathR
import Derived.Test.YtccddkkijhedhaaDoorPAx12
namespace Go.Proofs.YtccddkkijhedhaaDoor.Pure
open Go.RowKit Go.Proofs.YtccddkkijhedhaaDoor Go.Proofs.YtccddkkijhedhaaDoor.PA
theorem RtoStarts (a b c : Int) (_ : (Lit.int .i64 a).wf = true) (_ : (Lit.int .i64 b).wf = true) (_ : (Lit.int .i64 c).wf = true) : annexlaw17_RtoStarts.f a b c = some true := by
  simp only [annexlaw17_RtoStarts.f, known_true, start_f, refStart_f, Option.bind_some, annexlaw17_num.f]
  by_cases h : pmB a b c = true <;> simp [h, same_self]
end Go.Proofs.YtccddkkijhedhaaDoor.Pure
