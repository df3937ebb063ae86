import Derived.Test.YtbelfaoolnijiaaArgs
import Derived.JoinedCond
namespace Go.Proofs.Ytbelfaoolnijiaa
open Go.ChangeShapes Go.WideShapes Go.ChangeAt Go.RowKit
open Go.Proofs.YtbelfaoolnijiaaW.PrintWords
theorem bulk_strs {H : Type} (ss : List ByteArray) : ss.length ≤ Rows.uptoBulkAll (strs (H := H) ss) ∧ ∀ s ∈ ss, s.size ≤ Rows.uptoBulkAll (strs (H := H) ss) := by
  induction ss with
  | nil => simp
  | cons s ss ih =>
    have e : Rows.uptoBulkAll (strs (H := H) (s :: ss)) = s.data.toList.length + 1 + Rows.uptoBulkAll (strs (H := H) ss) := by
      show Rows.uptoBulkAll (DataW.lit (.string s.data.toList) :: strs ss) = _
      simp only [Rows.uptoBulkAll, Rows.uptoBulk]
    have hz : s.data.toList.length = s.size := by rw [Array.length_toList]; rfl
    refine ⟨by simp only [List.length_cons]; omega, fun x hx => ?_⟩
    rcases List.mem_cons.1 hx with rfl | hx
    · omega
    · have := ih.2 x hx; omega
section
variable {H : Type} {enc : TypeId × Value → H} {P : Program} {W : World} {base : Nat} {spare : Nat → Bool} {held : Bool} {t e : TypeId} {v : Value} {d : DataW H} {ps : List MemPlace} {r : Reach} {b0 : Nat}
theorem arg_strsB (hu : P.underlying t = some (.slice e)) (he : P.underlying e = some .string) (hc : P.cellsOf e = 1) (hval : Value.okWide P W r b0 t v) (h : DataW.Trod enc P W base spare held t v d ps)
    (hb : Rows.uptoBulk d ≤ 1048576) :
    ∃ (A : Option Addr) (c : Nat) (l : List ByteArray), v = .slice A l.length c ∧ l.length ≤ c ∧ Kd.C Kd.string W A l.length l ∧ l.length ≤ 1048576 ∧ ∀ s ∈ l, s.size ≤ 1048576 := by
  obtain ⟨a, len, cap, rfl⟩ := okWide_slice hu hval
  obtain ⟨fuel, hf⟩ := h
  rcases open_strings hu he hc hf with ⟨hcs, _⟩ | ⟨x, l, c, ss, hcs, _, hl, hm, hz, hx, hcell, _⟩
  · simp [Value.cells] at hcs
    obtain ⟨rfl, rfl, rfl⟩ := hcs
    exact ⟨none, 0, [], rfl, Nat.le_refl _, ⟨rfl, by simp, by simp⟩, by simp, by simp⟩
  · simp [Value.cells] at hcs
    obtain ⟨rfl, rfl, rfl⟩ := hcs
    obtain ⟨hx, _⟩ := Prod.mk.inj hx
    subst hx
    simp only [Rows.uptoBulk] at hb
    obtain ⟨b1, b2⟩ := bulk_strs (H := H) (ss.take len)
    have hl2 : len ≤ ss.length := by
      rw [hz]
      split
      · exact hl
      · exact Nat.le_refl _
    have hlen : (ss.take len).length = len := by simp; omega
    have hM : maxLen ≤ 9223372036854775807 := by decide
    refine ⟨some x, cap, ss.take len, by rw [hlen], by rw [hlen]; exact hl, ⟨rfl, by rw [hlen]; omega, fun _ => ⟨x, rfl, fun j p hj => ⟨[.string p], rfl, rfl, fun i u hu => ?_⟩⟩⟩, by omega, fun s hs => by have := b2 s hs; omega⟩
    have hj2 : j < len := by
      have := (List.getElem?_eq_some_iff.1 hj).1; rw [hlen] at this; exact this
    have hp : ss.getD j ByteArray.empty = p := by
      rw [List.getElem?_take_of_lt hj2] at hj
      rw [List.getD_eq_getElem?_getD, hj]; rfl
    have hi : i = 0 := by
      cases i with
      | zero => rfl
      | succ i => simp at hu
    subst hi
    have hu2 : Value.string p = u := by simpa using hu
    subst hu2
    have := hcell j (by omega)
    rw [hp] at this
    simpa [Kd.string, Kd.scalar] using this
end
end Go.Proofs.Ytbelfaoolnijiaa
