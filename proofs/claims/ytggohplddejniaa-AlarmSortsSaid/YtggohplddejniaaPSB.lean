import Derived.Test.YtggohplddejniaaPS
import Derived.Test.YtggohplddejniaaA4B
import Derived.Test.YtggohplddejniaaA4I
namespace Go.Proofs.Ytggohplddejniaa
open Go
set_option maxRecDepth 8000

/-! ### The alarm of bytes is the alarm of ints -/
theorem mget_b : ∀ (m : Pl Int) (k : Int), mget byteT.ko m k = mget intT.ko m k
  | [], _ => rfl
  | (a, v) :: l, k => by
    show (if @decide (k = a) (intT.ko.dec k a) = true then some v else mget byteT.ko l k) = _
    rw [mget_b l k]
    rfl
theorem mset_b : ∀ (m : Pl Int) (k : Int) (v : Value), mset byteT.ko m k v = mset intT.ko m k v
  | [], _, _ => rfl
  | (a, u) :: l, k, v => by
    show (if @decide (k = a) (intT.ko.dec k a) = true then (k, v) :: l else (a, u) :: mset byteT.ko l k v) = _
    rw [mset_b l k v]
    rfl
theorem mdel_b : ∀ (m : Pl Int) (k : Int), mdel byteT.ko m k = mdel intT.ko m k
  | [], _ => rfl
  | (a, u) :: l, k => by
    show (if @decide (k = a) (intT.ko.dec k a) = true then l else (a, u) :: mdel byteT.ko l k) = _
    rw [mdel_b l k]
    rfl
theorem mv_b (s : HS Int) (j : Nat) : HS.mv byteT s j = HS.mv intT s j := by
  unfold HS.mv
  rw [mset_b]
  rfl
theorem upR_b (t : Tim Int) : ∀ (n : Nat) (s : HS Int), upR byteT t n s = upR intT t n s
  | 0, _ => rfl
  | n + 1, s => by
    rw [upR, upR, upR_b t n, mv_b]
    rfl
theorem downR_b (t : Tim Int) : ∀ (n : Nat) (s : HS Int), downR byteT t n s = downR intT t n s
  | 0, _ => rfl
  | n + 1, s => by
    rw [downR, downR, downR_b t n, mv_b]
    rfl
theorem lay_b (s : HS Int) (t : Tim Int) : HS.lay byteT s t = HS.lay intT s t := by
  unfold HS.lay
  rw [mset_b]
theorem siftR_b (s : HS Int) : siftR byteT s = siftR intT s := by
  unfold siftR
  rw [lay_b, downR_b, upR_b]
  rfl
theorem fin_b (s : HS Int) : AS.fin byteT s = AS.fin intT s := by
  unfold AS.fin
  rw [siftR_b]
theorem set_b (a : AS Int) (k t : Int) : AS.set byteT a k t = AS.set intT a k t := by
  unfold AS.set
  rw [mget_b]
  split
  · rw [fin_b, lay_b]
  · rw [fin_b, lay_b]
    rfl
theorem cancel_b (a : AS Int) (k : Int) : AS.cancel byteT a k = AS.cancel intT a k := by
  unfold AS.cancel
  rw [mget_b]
  split
  · split
    · rw [fin_b, lay_b, mdel_b]
      rfl
    · rw [mdel_b]
  · rfl
theorem dueR_b (now : Int) : ∀ (n : Nat) (a : AS Int), dueR byteT now n a = dueR intT now n a
  | 0, _ => rfl
  | n + 1, a => by
    rw [dueR, dueR, cancel_b, dueR_b now n]
    rfl
theorem due_b (a : AS Int) (now : Int) : AS.due byteT a now = AS.due intT a now := dueR_b now _ a
theorem inv_b {a : AS Int} (h : Inv intT a) : Inv byteT a := ⟨fun j u hj => by rw [mget_b]; exact h.pl j u hj, fun k v hk => by rw [mget_b] at hk; exact h.lp k v hk, h.nd, h.heap⟩
end Go.Proofs.Ytggohplddejniaa
