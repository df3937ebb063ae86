import Derived.Test.YtjnnlfeohbidhaaDoorAs3
import Derived.WalkKit
import Derived.LaidEql
import Derived.Stop.Asserts
import Derived.RowKitTokens
namespace Go.Proofs.YtjnnlfeohbidhaaDoor
open Go Go.Proofs Go.RowKit Go.Extern.Stop Go.Stop Go.Extern
theorem r_isAgg (w : World) : (isAgg 87).run Tryd.prog w = .ok true w := by kernel_rfl
theorem r_sizeT (w : World) : (sizeOf 87).run Tryd.prog w = .ok 1 w := by kernel_rfl
theorem r_loadVar (b : Addr) (e : Int) (W : World) (hb : W.cell? b = some (.int .i64 e)) : (loadVar 87 b).run Tryd.prog W = .ok (.agg #[.int .i64 e]) W := by
  unfold loadVar
  simp only [Sem.run_bind, r_isAgg, r_sizeT, Result.andThen, if_pos rfl]
  simp [loadCells, loadCellsFrom, Addr.add, Sem.run_bind, run_load, hb, Result.andThen]
theorem r_storeVar (t : Addr) (e : Int) (old : Value) (W : World) (ht : W.cell? t = some old) (hf : W.frozen? t = false) : (storeVar 87 t (.agg #[.int .i64 e])).run Tryd.prog W = .ok () (W.setCell t (.int .i64 e)) := by
  unfold storeVar
  simp only [Sem.run_bind, r_sizeT, Result.andThen]
  simp [Value.cells, storeCells, Addr.add]
  rw [run_store Tryd.prog W t _ _ (by rfl)]
  simp [ht, hf]
end Go.Proofs.YtjnnlfeohbidhaaDoor
