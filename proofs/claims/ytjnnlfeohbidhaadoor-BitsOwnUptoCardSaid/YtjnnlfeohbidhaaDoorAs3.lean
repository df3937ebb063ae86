import Derived.Test.YtjnnlfeohbidhaaDoorAs2
import Derived.WalkKit
import Derived.LaidEql
import Derived.Stop.Asserts
import Derived.RowKitTokens
namespace Go.Proofs.YtjnnlfeohbidhaaDoor
open Go Go.Proofs Go.RowKit Go.Extern.Stop Go.Stop Go.Extern
theorem r_rls (v x : Value) : ReflectliteValue.set #[v, x] = (do
    let (some (dst, a, fl), some (src, b, _)) := (← ReflectliteValue.parts v, ← ReflectliteValue.parts x)
      | unsupported (.noEntry "extern/(internal/reflectlite.Value).Set.zeroValue")
    if fl / ReflectliteValue.flagAddr % 2 == 0 then unsupported (.noEntry "extern/(internal/reflectlite.Value).Set.unaddressable")
    let val ← loadVar src b
    if ← Rtype.directlyAssignable dst src then storeVar dst a val
    else if ← Rtype.implements dst src then
      if (← Rtype.kind src) == 20 then
        match val with
        | .nilIface => unsupported (.noEntry "extern/reflectlite: a nil value of one interface type handed on as a value of another")
        | _ => storeVar dst a val
      else storeVar dst a (.iface src val)
    else panicString ("reflectlite.Set: value of type " ++ (← Rtype.spelt src) ++ " is not assignable to type " ++ (← Rtype.spelt dst))
    pure (.tuple #[])) := rfl
theorem r_partsA (a : Addr) (w : World) : (ReflectliteValue.parts (.agg #[.pointer (some ⟨2, 87, none⟩), .pointer (some a), .int .u64 409])).run Tryd.prog w = .ok (some (87, a, 409)) w := by kernel_rfl
theorem r_partsT (a : Addr) (w : World) : (ReflectliteValue.parts (.agg #[.pointer (some ⟨2, 87, none⟩), .pointer (some a), .int .u64 153])).run Tryd.prog w = .ok (some (87, a, 153)) w := by kernel_rfl
theorem r_direct (w : World) : (Rtype.directlyAssignable 87 87).run Tryd.prog w = .ok true w := by kernel_rfl
/-- (Value).Set: the variable at 'ta' gets what the Value's own variable 'b' holds. -/
theorem r_set (ta b : Addr) (e old : Value) (W : World) (hb : (loadVar 87 b).run Tryd.prog W = .ok (.agg #[e]) W) (hs : (storeVar 87 ta (.agg #[e])).run Tryd.prog W = .ok () (W.setCell ta e)) :
    (ReflectliteValue.set #[.agg #[.pointer (some ⟨2, 87, none⟩), .pointer (some ta), .int .u64 409], .agg #[.pointer (some ⟨2, 87, none⟩), .pointer (some b), .int .u64 153]]).run Tryd.prog W
      = .ok (.tuple #[]) (W.setCell ta e) := by
  rw [r_rls]
  simp only [Sem.run_bind, r_partsA, r_partsT, Result.andThen]
  simp [ReflectliteValue.flagAddr, hb, Result.andThen, r_direct, hs]
end Go.Proofs.YtjnnlfeohbidhaaDoor
