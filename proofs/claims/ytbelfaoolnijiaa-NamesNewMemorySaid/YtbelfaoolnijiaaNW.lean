import Derived.RangeFuncBox
import Derived.Shelf.RegionOpen
import Derived.WalkKit
import Derived.RowKit3
namespace Go.Proofs.Ytbelfaoolnijiaa.Nm
open Go Go.Proofs Go.RowKit

/-! ### Blocks and rows of one's own -/
section
variable {w w1 : World} {g : Nat} {t : TypeId} {cs : Array Value}
theorem blk_cell (h : w.heap[g]? = some (.cells cs t (0, 0))) (i : Nat) : w.cell? ⟨g, i, none⟩ = cs[i]? := by
  simp [World.cell?, h]
theorem blk_frozen (h : w.heap[g]? = some (.cells cs t (0, 0))) (i : Nat) : w.frozen? ⟨g, i, none⟩ = false := by
  simp [World.frozen?, h]
theorem blk_set {b : Nat} {fz : Nat × Nat} (h : w.heap[b]? = some (.cells cs t fz)) (i : Nat) (v : Value) : (w.setCell ⟨b, i, none⟩ v).heap[b]? = some (.cells (cs.setIfInBounds i v) t fz) := by
  simp [World.setCell, Array.getElem?_modify, h]
theorem blk_drew {o : Obj} (h : w.heap[g]? = some o) : w.drew.heap[g]? = some o := h
variable {b b' : Nat} {e : TypeId} {sz n : Nat} {v : Value} {xs : List Value}
theorem own_base (h : w.ownsRow b e sz v n xs) (k : Nat) (hk : v.ownBlock = some k) : b ≤ k := by
  obtain ⟨_, (⟨rfl, _⟩ | ⟨g, cap, cur, rfl, hb, _⟩)⟩ := h
  · cases hk
  · cases hk
    exact hb
theorem own_lt (h : w.ownsRow b e sz v n xs) (k : Nat) (hk : v.ownBlock = some k) : k < w.heap.size := by
  obtain ⟨_, (⟨rfl, _⟩ | ⟨g, cap, cur, rfl, _, hc, _⟩)⟩ := h
  · cases hk
  · cases hk
    exact (Array.getElem?_eq_some_iff.1 hc).1
theorem own_weaken (h : w.ownsRow b e sz v n xs) (hb : b' ≤ b) : w.ownsRow b' e sz v n xs := by
  obtain ⟨h0, (h1 | ⟨g, cap, cur, h1, h2, h3⟩)⟩ := h
  · exact ⟨h0, .inl h1⟩
  · exact ⟨h0, .inr ⟨g, cap, cur, h1, Nat.le_trans hb h2, h3⟩⟩
theorem own_move (h : w.ownsRow b e sz v n xs) (hm : ∀ k, v.ownBlock = some k → w1.heap[k]? = w.heap[k]?) : w1.ownsRow b e sz v n xs := by
  obtain ⟨h0, (h1 | ⟨g, cap, cur, rfl, h2, h3, h4⟩)⟩ := h
  · exact ⟨h0, .inl h1⟩
  · exact ⟨h0, .inr ⟨g, cap, cur, rfl, h2, (hm g rfl).trans h3, h4⟩⟩
end
end Go.Proofs.Ytbelfaoolnijiaa.Nm
