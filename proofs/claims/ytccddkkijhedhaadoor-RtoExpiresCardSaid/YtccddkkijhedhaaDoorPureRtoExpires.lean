import Derived.Test.YtccddkkijhedhaaDoorMathF
import Derived.Test.YtccddkkijhedhaaDoorPAx18
namespace Go.Proofs.YtccddkkijhedhaaDoor.Pure
open Go.RowKit Go.Proofs.YtccddkkijhedhaaDoor Go.Proofs.YtccddkkijhedhaaDoor.PA
theorem RtoExpires (a b c s8 v4 rto sh : Int) (kn : Bool) (_ : (Lit.int .i64 a).wf = true) (_ : (Lit.int .i64 b).wf = true) (_ : (Lit.int .i64 c).wf = true) (_ : (Lit.int .i64 s8).wf = true) (_ : (Lit.int .i64 v4).wf = true) (_ : (Lit.int .i64 rto).wf = true) (_ : (Lit.int .i64 sh).wf = true) :
    ∃ k, annexlaw17_RtoExpires.f k a b c s8 v4 rto sh kn = some true := by
  refine ⟨21, ?_⟩
  simp only [annexlaw17_RtoExpires.f, known_true, expire_f, refExpire_f _ _ _ _ _ _ _ _ 21 (by decide), Option.bind_some, same_self, if_true]
end Go.Proofs.YtccddkkijhedhaaDoor.Pure
