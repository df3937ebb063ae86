import Derived.Test.YtbelfaoolnijiaaNSp
import Derived.Test.YtbelfaoolnijiaaNShJ
namespace Go.Proofs.Ytbelfaoolnijiaa.Nm
open Go.RowKit

/-- What Join makes of names that may be. -/
def joinS (l : List ByteArray) : ByteArray := ⟨#[47]⟩ ++ ⟨(Lib.join (l.map (·.data.toList)) [47]).toArray⟩
def goodB (l : List ByteArray) : Bool := l.all fun x => checkV x == 0
def names_Join.f (l : List ByteArray) : Option (ByteArray × Int) :=
  some (if 16 < l.length then (⟨#[]⟩, 33) else if goodB l then (joinS l, 0) else (⟨#[]⟩, 31))

theorem checkV_size {s : ByteArray} (h : checkV s = 0) : s.size ≤ 23 := by
  unfold checkV at h
  split at h
  · cases h
  · omega
theorem _root_.Go.RowKit.Below.then_ {w w1 w2 : World} (h : Below w.heap.size w w1) (k : Below w1.heap.size w1 w2) : Below w.heap.size w w2 := h.trans (k.mono h.size)
theorem len_inter (xs : List (List UInt8)) (h : ∀ x ∈ xs, x.length ≤ 23) : (Lib.join xs [47]).length ≤ 24 * xs.length := by
  unfold Lib.join
  induction xs with
  | nil => simp
  | cons x xs ih =>
    have hx := h x (by simp)
    have ih := ih (fun y hy => h y (by simp [hy]))
    cases xs with
    | nil => simp; omega
    | cons y ys =>
      rw [List.intercalate_cons_cons]
      simp only [List.length_append, List.length_cons, List.length_nil] at ih ⊢
      omega

theorem join_long (A0 : Option Addr) (c0 : Nat) (l0 : List ByteArray) (w : World) (h : 16 < l0.length) :
    Calls Try.prog 20 #[.slice A0 l0.length c0] w fun e w' => e = .returned (.tuple #[.string ⟨#[]⟩, .int .i64 33]) ∧ Below w.heap.size w w' := by
  go_enter Try.func20, Try.ntmps20
  go_wp2
  go_ret2
  exact ⟨rfl, Below.refl _ _⟩

theorem join_none (A0 : Option Addr) (c0 : Nat) (w : World) :
    Calls Try.prog 20 #[.slice A0 0 c0] w fun e w' => e = .returned (.tuple #[.string (joinS []), .int .i64 0]) ∧ Below w.heap.size w w' := by
  go_enter Try.func20, Try.ntmps20
  go_wp2
  go_loopw [5, 6, 12] (fun _ _ i wr => i = .int .i64 0 ∧ wr = w) (fun _ _ _ _ => 0)
  case atStart => exact ⟨rfl, rfl⟩
  case round =>
    obtain ⟨rfl, rfl⟩ := hrel
    go_wp2_with (go_at_call 34; refine (Try.strings_Join_none _ _ _ _).mono ?_; rintro e w' ⟨rfl, rfl⟩)
    go_ret2
    exact ⟨rfl, Below.refl _ _⟩

def Sofar (l0 : List ByteArray) (k : Nat) : Prop := ∀ j x, j < k → l0[j]? = some x → checkV x = 0
theorem sofar_good {l0 : List ByteArray} (h : Sofar l0 l0.length) : goodB l0 = true := by
  unfold goodB
  rw [List.all_eq_true]
  intro x hx
  obtain ⟨j, hj, rfl⟩ := List.getElem_of_mem hx
  simpa using h j _ hj (List.getElem?_eq_getElem hj)
theorem sofar_bad {l0 : List ByteArray} {k : Nat} {x : ByteArray} (hx : l0[k]? = some x) (h : checkV x ≠ 0) : goodB l0 = false := by
  unfold goodB
  rw [List.all_eq_false]
  exact ⟨x, List.mem_of_getElem? hx, by simpa using h⟩
def joinV (l0 : List ByteArray) : Value := if goodB l0 then .tuple #[.string (joinS l0), .int .i64 0] else .tuple #[.string ⟨#[]⟩, .int .i64 31]
theorem ret_tup {a b c d : Value} (h : a = c) (k : b = d) : Ending.returned (.tuple #[a, b]) = .returned (.tuple #[c, d]) := by rw [h, k]

set_option maxHeartbeats 1000000 in
theorem join_some (b o c0 : Nat) (l0 : List ByteArray) (w : World) (h0 : 0 < l0.length) (h16 : l0.length ≤ 16) (hc0 : l0.length ≤ c0) (hcell : ∀ j x, l0[j]? = some x → w.cell? ⟨b, o + j, none⟩ = some (.string x)) :
    Calls Try.prog 20 #[.slice (some ⟨b, o, none⟩) l0.length c0] w fun e w' => e = .returned (joinV l0) ∧ Below w.heap.size w w' := by
  have hb0 : b < w.heap.size := World.block_lt_of_cell? w _ (hcell 0 _ (List.getElem?_eq_getElem h0))
  have HC := Lib.hid hcell
  clear hcell
  obtain ⟨n, hn⟩ : ∃ n, n = l0.length := ⟨_, rfl⟩
  rw [← hn] at h0 h16 hc0 ⊢
  have HN := Lib.hid hn
  clear hn
  go_enter Try.func20, Try.ntmps20
  go_wp2
  go_loopw [5, 6, 12] (fun _ _ i wr => ∃ k : Nat, k ≤ n ∧ i = .int .i64 k ∧ Sofar l0 k ∧ Below w.heap.size w wr) (fun _ _ i _ => n - (intOf i).toNat)
  case atStart => exact ⟨0, Nat.zero_le _, rfl, fun j x hj => by omega, Below.refl _ _⟩
  case round =>
    obtain ⟨k, hk, rfl, hS, hB⟩ := hrel
    have HS := Lib.hid hS
    clear hS
    by_cases hlt : k < n
    · obtain ⟨x, hx⟩ : ∃ x, l0[k]? = some x := ⟨_, List.getElem?_eq_getElem (by have := HN.out; omega)⟩
      have hcx : wr.cell? ⟨b, o + k, none⟩ = some (.string x) := (hB.cell (p := ⟨b, o + k, none⟩) hb0).trans (HC.out k x hx)
      have HX := Lib.hid hx
      clear hx
      rcases checkV_01 x with hv | hv
      · have HV := Lib.hid hv
        go_wp2_with (go_at_call 13; refine (names_Check.calls _ _ _ rfl).mono ?_; rintro e w1 ⟨rfl, hb1⟩; rw [HV.out])
        go_roundw
        case rel =>
          refine ⟨k + 1, by omega, by go_num, ?_, hB.then_ hb1⟩
          intro j y hj hy
          by_cases e : j = k
          · subst e
            have := HX.out
            rw [hy] at this
            cases this
            exact HV.out
          · exact HS.out j y (by omega) hy
        case measure => simp [intOf]; omega
      · have HV := Lib.hid hv
        clear hv
        go_wp2_with (go_at_call 13; refine (names_Check.calls _ _ _ rfl).mono ?_; rintro e w1 ⟨rfl, hb1⟩; rw [HV.out])
        go_ret2
        refine ⟨?_, hB.then_ hb1⟩
        unfold joinV
        rw [sofar_bad HX.out (by rw [HV.out]; decide)]
        rfl
    · have e : k = n := by omega
      have hg : goodB l0 = true := sofar_good (by have := HS.out; rw [e, HN.out] at this; exact this)
      have hlen : (Lib.join (l0.map (·.data.toList)) [47]).length ≤ 24 * l0.length := by
        have := len_inter (l0.map (·.data.toList)) (fun y hy => by
          obtain ⟨x, hx, rfl⟩ := List.mem_map.1 hy
          unfold goodB at hg
          rw [List.all_eq_true] at hg
          have := checkV_size (by simpa using hg x hx)
          rw [Array.length_toList]
          exact this)
        simpa using this
      have hjo : Calls Try.prog 34 #[.slice (some ⟨b, o, none⟩) n c0, .string ⟨#[47]⟩] wr fun e w' => e = .returned (.string ⟨(Lib.join (l0.map (·.data.toList)) [47]).toArray⟩) ∧ Below wr.heap.size wr w' := by
        rw [HN.out]
        exact Try.strings_Join b o c0 l0 ⟨#[47]⟩ wr (fun j x hj => (hB.cell (p := ⟨b, o + j, none⟩) hb0).trans (HC.out j x hj)) (Nat.lt_of_lt_of_le hb0 hB.size) (by have := HN.out; omega) (by have := HN.out; omega) (by have := HN.out; simpa using (by omega : (Lib.join (l0.map (·.data.toList)) [47]).length ≤ 140737488355328))
      have HJ := Lib.hid hjo
      have HG := Lib.hid hg
      have hl2 : (⟨(Lib.join (l0.map (·.data.toList)) [47]).toArray⟩ : ByteArray).size ≤ 400 := by
        show (Lib.join (l0.map (·.data.toList)) [47]).toArray.size ≤ 400
        rw [List.size_toArray]
        have := HN.out
        omega
      obtain ⟨J, hJ⟩ : ∃ J : ByteArray, J = ⟨(Lib.join (l0.map (·.data.toList)) [47]).toArray⟩ := ⟨_, rfl⟩
      rw [← hJ] at hl2
      have HJ2 := Lib.hid hJ
      clear hlen hjo hg e hJ
      go_wp2_with (go_at_call 34; refine HJ.out.mono ?_; rintro e w' ⟨rfl, hb2⟩; rw [← HJ2.out])
      go_ret2
      refine ⟨?_, hB.then_ hb2⟩
      unfold joinV joinS
      rw [HG.out, ← HJ2.out]
      rfl

end Go.Proofs.Ytbelfaoolnijiaa.Nm
