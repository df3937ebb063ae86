import Derived.Test.YtjnnlfeohbidhaaDoorAs4
import Derived.WalkKit
import Derived.LaidEql
import Derived.Stop.Asserts
import Derived.RowKitTokens
namespace Go.Proofs.YtjnnlfeohbidhaaDoor
open Go Go.Proofs Go.RowKit Go.Extern.Stop Go.Stop Go.Extern
theorem r_methodKind (h : Value) (w : World) : (Go.method 159 111 (.agg #[h]) "Kind").run Tryd.prog w = .ok (94, h) w := by kernel_rfl
theorem r_methodElem (h : Value) (w : World) : (Go.method 159 111 (.agg #[h]) "Elem").run Tryd.prog w = .ok (106, .agg #[h]) w := by kernel_rfl
theorem r_methodImplements (h : Value) (w : World) : (Go.method 159 111 (.agg #[h]) "Implements").run Tryd.prog w = .ok (107, .agg #[h]) w := by kernel_rfl
theorem r_methodAssignableTo (h : Value) (w : World) : (Go.method 159 111 (.agg #[h]) "AssignableTo").run Tryd.prog w = .ok (104, .agg #[h]) w := by kernel_rfl
theorem r_methodComparable (h : Value) (w : World) : (Go.method 159 111 (.agg #[h]) "Comparable").run Tryd.prog w = .ok (105, .agg #[h]) w := by kernel_rfl
end Go.Proofs.YtjnnlfeohbidhaaDoor
