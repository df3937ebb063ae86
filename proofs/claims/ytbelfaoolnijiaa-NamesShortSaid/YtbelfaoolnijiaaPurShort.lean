import Derived.Test.YtbelfaoolnijiaaPurAdd
import Derived.Test.YtbelfaoolnijiaaPAx29
namespace Go.Proofs.Ytbelfaoolnijiaa.Pure
open Go.RowKit Go.Proofs.Ytbelfaoolnijiaa Go.Proofs.Ytbelfaoolnijiaa.PA Go.Proofs.YtbelfaoolnijiaaW.PrintWords Go.Proofs.YtbelfaoolnijiaaW.PrintLast Go.Proofs.YtbelfaoolnijiaaW.PrintMore
theorem okay_f (e : Int) : annexlaw3_okay.f e = some (e == 0) := rfl
theorem short_l (l : List ByteArray) (hl : l.length * 16 ≤ 140737488351232) (d : Nat) : ∀ (k : Nat) (i : Int) (cur : List ByteArray), cur.length ≤ 16 → goodB cur = true → 0 ≤ i → i ≤ l.length → l.length - i = d → 2 * d + 3 ≤ k →
    annexlaw3_NamesShort.l0 k l (joinS cur) cur.length i = some true := by
  induction d with
  | zero =>
    intro k i cur h16 hg h0 h1 hd hk
    obtain ⟨k, rfl⟩ : ∃ m, k = m + 1 := ⟨k - 1, by omega⟩
    simp only [annexlaw3_NamesShort.l0]
    rw [if_neg (by omega), split_join h16 hg]
    simp [okay_f]
  | succ d ih =>
    intro k i cur h16 hg h0 h1 hd hk
    obtain ⟨k, rfl⟩ : ∃ m, k = m + 2 := ⟨k - 2, by omega⟩
    have hw : wrap64 (i + 1) = i + 1 := by unfold wrap64; omega
    have hn : wrap64 ((cur.length : Int) + 1) = (cur.length : Int) + 1 := by unfold wrap64; omega
    simp only [annexlaw3_NamesShort.l0]
    rw [if_pos (by omega), if_pos h0]
    generalize rdOf ByteArray.empty l i = x
    simp only [check_f, Option.bind_some, okay_f]
    by_cases hx : checkV x = 0
    · by_cases hf : cur.length < 16
      · rw [add_good hf hg hx]
        have hfi : (decide ((cur.length : Int) < 16)) = true := by simp; omega
        have hg2 : goodB (cur ++ [x]) = true := by rw [good_snoc, hg, hx]; rfl
        have hs := joinS_size (l := cur ++ [x]) (by simp; omega) hg2
        simp only [hx, Option.bind_some, beq_self_eq_true, if_true, annexlaw3_NamesShort.j1, hfi, okay_f, hw, hn]
        rw [if_neg (by omega)]
        have := ih k (i + 1) (cur ++ [x]) (by simp; omega) hg2 (by omega) (by omega) (by omega) (by omega)
        rw [show (((cur ++ [x]).length : Nat) : Int) = (cur.length : Int) + 1 by simp] at this
        exact this
      · rw [add_full (by omega) hg hx]
        have hfi : (decide ((cur.length : Int) < 16)) = false := by simp; omega
        simp only [hx, Option.bind_some, beq_self_eq_true, if_true, annexlaw3_NamesShort.j1, hfi, okay_f, hw, num_f, Bool.false_eq_true, if_false]
        have e : ((33 : Int) == 0) = false := rfl
        have e2 : (⟨#[]⟩ : ByteArray).toList = [] := by rw [ByteArray.toList_eq]
        simp only [e, e2, Bool.false_eq_true, if_false, if_true]
        exact ih k (i + 1) cur h16 hg (by omega) (by omega) (by omega) (by omega)
    · rw [add_bad h16 hg hx]
      have hc : (checkV x == 0) = false := by simpa using hx
      have e : ((31 : Int) == 0) = false := rfl
      have e2 : (⟨#[]⟩ : ByteArray).toList = [] := by rw [ByteArray.toList_eq]
      simp only [hc, Option.bind_some, annexlaw3_NamesShort.j1, okay_f, hw, Bool.false_eq_true, if_false, e, e2, if_true]
      exact ih k (i + 1) cur h16 hg (by omega) (by omega) (by omega) (by omega)
theorem NamesShort (l : List ByteArray) (hl : l.length * 16 ≤ 140737488351232) : ∃ k, annexlaw3_NamesShort.f k l = some true := by
  refine ⟨2 * l.length + 20, ?_⟩
  simp only [annexlaw3_NamesShort.f, first_f _ (show 5 ≤ 2 * l.length + 20 by omega), Option.bind_some, if_true]
  have := short_l l hl l.length (2 * l.length + 20) 0 [] (by simp) rfl (by omega) (by omega) (by omega) (by omega)
  rw [joinS_slash] at this
  exact this
end Go.Proofs.Ytbelfaoolnijiaa.Pure
