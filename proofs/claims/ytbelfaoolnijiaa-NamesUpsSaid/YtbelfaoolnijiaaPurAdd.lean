import Derived.Test.YtbelfaoolnijiaaPurTurns
import Derived.Test.YtbelfaoolnijiaaPAx27
import Derived.Test.YtbelfaoolnijiaaPAx30
namespace Go.Proofs.Ytbelfaoolnijiaa.Pure
open Go.RowKit Go.Proofs.Ytbelfaoolnijiaa Go.Proofs.Ytbelfaoolnijiaa.PA Go.Proofs.YtbelfaoolnijiaaW.PrintWords Go.Proofs.YtbelfaoolnijiaaW.PrintLast Go.Proofs.YtbelfaoolnijiaaW.PrintMore
theorem add_good {cur : List ByteArray} (h : cur.length < 16) (hg : goodB cur = true) {x : ByteArray} (hx : checkV x = 0) : names_Add.f (joinS cur) x = some (joinS (cur ++ [x]), 0) := by
  simp only [names_Add.f, split_join (show cur.length ≤ 16 by omega) hg, Option.bind_some, check_f, hx, if_true]
  rw [if_pos (by omega), join_ok (by simp; omega) (by rw [good_snoc, hg, hx]; rfl)]
  rfl
theorem add_full {cur : List ByteArray} (h : cur.length = 16) (hg : goodB cur = true) {x : ByteArray} (hx : checkV x = 0) : names_Add.f (joinS cur) x = some (⟨#[]⟩, 33) := by
  simp only [names_Add.f, split_join (show cur.length ≤ 16 by omega) hg, Option.bind_some, check_f, hx, if_true]
  rw [if_pos (by omega)]
  simp only [names_Join.f]
  rw [if_pos (by simp; omega)]
  rfl
theorem add_bad {cur : List ByteArray} (h : cur.length ≤ 16) (hg : goodB cur = true) {x : ByteArray} (hx : checkV x ≠ 0) : names_Add.f (joinS cur) x = some (⟨#[]⟩, 31) := by
  simp only [names_Add.f, split_join h hg, Option.bind_some, check_f, if_true]
  rw [if_neg hx]
  rcases checkV_01 x with e | e
  · exact absurd e hx
  · rw [e]
theorem add_none {p x : ByteArray} {e : Int} (h : names_Split.f p = some ([], e)) (he : e ≠ 0) : names_Add.f p x = some (⟨#[]⟩, e) := by
  simp only [names_Add.f, h, Option.bind_some]
  rw [if_neg he]
theorem parent_root : names_Parent.f (joinS []) = some (⟨#[]⟩, ⟨#[]⟩, 34) := by
  simp only [names_Parent.f, split_join (l := []) (by simp) rfl, Option.bind_some]
  simp
theorem parent_snoc {cur : List ByteArray} {x : ByteArray} (h : (cur ++ [x]).length ≤ 16) (hg : goodB (cur ++ [x]) = true) : names_Parent.f (joinS (cur ++ [x])) = some (joinS cur, x, 0) := by
  have hl : (cur ++ [x]).length = cur.length + 1 := by simp
  have hw : wrap64 (((cur ++ [x]).length : Int) - 1) = cur.length := by rw [hl]; unfold wrap64; omega
  simp only [names_Parent.f, split_join h hg, Option.bind_some, if_true, hw]
  rw [if_neg (by omega), if_pos (by omega), if_pos (by omega)]
  have ht : (cur ++ [x]).take ((cur.length : Int) : Int).toNat = cur := by simp
  have hr : rdOf ByteArray.empty (cur ++ [x]) (cur.length : Int) = x := by simp [rdOf]
  rw [good_snoc, Bool.and_eq_true] at hg
  rw [ht, hr, join_ok (by omega) hg.1]
  simp only [Option.bind_some]
  rw [if_pos (by omega)]
theorem parent_none {p : ByteArray} {e : Int} (h : names_Split.f p = some ([], e)) (he : e ≠ 0) : names_Parent.f p = some (⟨#[]⟩, ⟨#[]⟩, e) := by
  simp only [names_Parent.f, h, Option.bind_some]
  rw [if_neg he]
end Go.Proofs.Ytbelfaoolnijiaa.Pure
