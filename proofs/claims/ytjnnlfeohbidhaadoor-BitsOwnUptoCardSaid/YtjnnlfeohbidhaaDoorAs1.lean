import Derived.Test.YtjnnlfeohbidhaaDoorProg
import Derived.WalkKit
import Derived.LaidEql
import Derived.Stop.Asserts
import Derived.RowKitTokens
namespace Go.Proofs.YtjnnlfeohbidhaaDoor
open Go Go.Proofs Go.RowKit Go.Extern.Stop Go.Stop Go.Extern
/-! ### The model's entries for internal/reflectlite at bits.trouble (after the worked proof ToyasAs) -/
theorem r_valueOf (t : Addr) (w : World) : (ReflectliteValue.unpack (.iface 90 (.pointer (some t)))).run Tryd.prog w
    = .ok (.agg #[.pointer (some ⟨2, 90, none⟩), .pointer (some ⟨w.heap.size, 0, none⟩), .int .u64 150]) (w.alloc (.cells #[.pointer (some t)] 90)) := by kernel_rfl
theorem r_type (a : Addr) (w : World) : (ReflectliteValue.methodAny (ReflectliteValue.valueError "reflectlite.Value.Type" 0) (fun t _ _ _ => ReflectliteType.toType t) #[.agg #[.pointer (some ⟨2, 90, none⟩), .pointer (some a), .int .u64 150]]).run Tryd.prog w
    = .ok (.iface 111 (.agg #[.pointer (some ⟨2, 90, none⟩)])) w := by kernel_rfl
theorem r_kindP (w : World) : ((ReflectliteType.abiMethod fun t => (fun a : Nat => Value.int IntKind.u8 (a : Int)) <$> Rtype.kind t) #[.pointer (some ⟨2, 90, none⟩)]).run Tryd.prog w = .ok (.int .u8 22) w := by kernel_rfl
theorem r_kindT (w : World) : ((ReflectliteType.abiMethod fun t => (fun a : Nat => Value.int IntKind.u8 (a : Int)) <$> Rtype.kind t) #[.pointer (some ⟨2, 87, none⟩)]).run Tryd.prog w = .ok (.int .u8 25) w := by kernel_rfl
theorem r_elem (w : World) : (ReflectliteType.method ReflectliteType.elem #[.agg #[.pointer (some ⟨2, 90, none⟩)]]).run Tryd.prog w = .ok (.iface 111 (.agg #[.pointer (some ⟨2, 87, none⟩)])) w := by kernel_rfl
theorem r_implements (w : World) : (ReflectliteType.relation "Implements" ReflectliteType.implements_ #[.agg #[.pointer (some ⟨2, 87, none⟩)], .iface 111 (.agg #[.pointer (some ⟨2, 85, none⟩)])]).run Tryd.prog w = .ok (.bool true) w := by kernel_rfl
theorem r_typeOf (v : Value) (w : World) : (ReflectliteType.typeOf #[.iface 87 v]).run Tryd.prog w = .ok (.iface 111 (.agg #[.pointer (some ⟨2, 87, none⟩)])) w := by kernel_rfl
theorem r_assignable (w : World) : (ReflectliteType.relation "AssignableTo" ReflectliteType.assignableTo #[.agg #[.pointer (some ⟨2, 87, none⟩)], .iface 111 (.agg #[.pointer (some ⟨2, 87, none⟩)])]).run Tryd.prog w = .ok (.bool true) w := by kernel_rfl
theorem r_valueOfT (e : Int) (w : World) : (ReflectliteValue.unpack (.iface 87 (.agg #[.int .i64 e]))).run Tryd.prog w
    = .ok (.agg #[.pointer (some ⟨2, 87, none⟩), .pointer (some ⟨w.heap.size, 0, none⟩), .int .u64 153]) (w.alloc (.cells #[.int .i64 e] 87)) := by kernel_rfl
end Go.Proofs.YtjnnlfeohbidhaaDoor
