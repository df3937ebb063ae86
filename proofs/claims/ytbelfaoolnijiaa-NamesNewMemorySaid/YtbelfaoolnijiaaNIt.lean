import Derived.Test.YtbelfaoolnijiaaNRg
import Derived.BigQuiet
import Derived.Deep.QuietTactic
namespace Go.Proofs.Ytbelfaoolnijiaa.Nm
open Go.RowKit Go.Shelf
attribute [local go_sem] Oper.semAt_some

/-- What stands behind each stroke of a text that begins with one. -/
def partsL : List UInt8 → List (List UInt8)
  | [] => []
  | _ :: t => t.takeWhile (· ≠ 47) :: partsL (t.dropWhile (· ≠ 47))
termination_by l => l.length
decreasing_by have := (List.dropWhile_sublist (l := t) (· ≠ 47)).length_le; simp only [List.length_cons]; omega
theorem partsL_cons (r : ByteArray) (h : 0 < r.size) : partsL r.data.toList = (r.extract 1 r.size).data.toList.takeWhile (· ≠ 47) :: partsL ((r.extract 1 r.size).data.toList.dropWhile (· ≠ 47)) := by
  have e : (r.extract 1 r.size).data.toList = r.data.toList.drop 1 := by
    simp [ByteArray.data_extract]
    exact List.take_of_length_le (by simp)
  rw [e]
  match hr : r.data.toList with
  | [] => exfalso; have : r.data.toList.length = 0 := by rw [hr]; rfl
          have : r.size = r.data.toList.length := by simp [← ByteArray.size_data]
          omega
  | c :: t => rw [partsL]; rfl
theorem index_split (l : List UInt8) (c : UInt8) : (Lib.indexByte l c = -1 → l.takeWhile (· ≠ c) = l ∧ l.dropWhile (· ≠ c) = []) ∧ ∀ o : Nat, Lib.indexByte l c = o → o ≤ l.length ∧ l.takeWhile (· ≠ c) = l.take o ∧ l.dropWhile (· ≠ c) = l.drop o := by
  induction l with
  | nil => simp [Lib.indexByte]
  | cons b l ih =>
    rw [Lib.indexByte]
    by_cases e : b = c
    · subst e
      simp; intro o h; obtain rfl : o = 0 := by omega
      simp
    · have hge := Lib.indexByte_ge l c
      by_cases m : Lib.indexByte l c = -1
      · obtain ⟨h1, h2⟩ := ih.1 m
        simp only [m, beq_self_eq_true, if_true, show (b == c) = false by simpa using e, Bool.false_eq_true, if_false]
        refine ⟨fun _ => ⟨?_, ?_⟩, fun o h => by omega⟩
        · rw [List.takeWhile_cons_of_pos (by simpa using e), h1]
        · rw [List.dropWhile_cons_of_pos (by simpa using e), h2]
      · have eb : (b == c) = false := by simpa using e
        have em : (Lib.indexByte l c == -1) = false := by simpa using m
        simp only [eb, em, Bool.false_eq_true, if_false]
        refine ⟨fun h => by omega, fun o h => ?_⟩
        obtain ⟨k, rfl⟩ : ∃ k, o = k + 1 := ⟨o - 1, by omega⟩
        obtain ⟨h1, h2, h3⟩ := ih.2 k (by omega)
        refine ⟨by simpa using h1, ?_, ?_⟩
        · rw [List.takeWhile_cons_of_pos (by simpa using e), h2]; rfl
        · rw [List.dropWhile_cons_of_pos (by simpa using e), h3]; rfl
theorem index_span {t : ByteArray} {o : Nat} (h : Lib.indexByte t.data.toList (47 : Int).toNat.toUInt8 = o) : o ≤ t.size ∧ t.data.toList.takeWhile (· ≠ 47) = (t.extract 0 o).data.toList ∧ t.data.toList.dropWhile (· ≠ 47) = (t.extract o t.size).data.toList := by
  obtain ⟨h1, h2, h3⟩ := (index_split t.data.toList 47).2 o h
  refine ⟨by simpa using h1, h2.trans ?_, h3.trans ?_⟩
  · simp [ByteArray.data_extract]
  · simp [ByteArray.data_extract]
    exact (List.take_of_length_le (by simp)).symm
theorem index_none {t : ByteArray} {i : Int} (h : Lib.indexByte t.data.toList (47 : Int).toNat.toUInt8 = i) (h0 : ¬ 0 ≤ i) : t.data.toList.takeWhile (· ≠ 47) = t.data.toList ∧ t.data.toList.dropWhile (· ≠ 47) = [] :=
  (index_split t.data.toList 47).1 (by have hg := Lib.indexByte_ge t.data.toList 47; have e : Lib.indexByte t.data.toList 47 = i := h; omega)
def strAt (W : World) (b : Nat) : Nat := match W.cell? ⟨b, 0, none⟩ with | some (.string s) => s.size | _ => 0

set_option maxHeartbeats 1000000 in
theorem iter_in (n l Bp : Nat) (p : ByteArray) (J : List ByteArray → World → Prop) (Jx : World → Prop) (W : World)
    (hJ : ∀ pre W W', J pre W → But W W' (fun k => k = Bp) → J pre W') (hJb : ∀ pre W, J pre W → Bp < W.heap.size)
    (hY : ∀ pre x W, (pre ++ [x]).map (·.data.toList) <+: partsL p.data.toList → J pre W → YieldAt Fence.wide (n - 1 - 1) Try.prog l #[.string x] W fun e W' => (e = .returned (.bool true) ∧ J (pre ++ [x]) W' ∧ W'.heap[Bp]? = W.heap[Bp]?) ∨ (e = .returned (.bool false) ∧ Jx W'))
    (h0 : J [] W) (hc : W.heap[Bp]? = some (.cells #[.string p] 9 (0, 0))) :
    CallsIn Fence.wide (n - 1) Try.prog 35 #[.func (.yield l) #[] #[], .pointer (some ⟨Bp, 0, none⟩)] W fun e W' => (∃ v, e = .returned v) ∧ ((∃ xs : List ByteArray, xs.map (·.data.toList) = partsL p.data.toList ∧ J xs W') ∨ Jx W') := by
  have H1 := Lib.hid hJ
  have H2 := Lib.hid hJb
  have H3 := Lib.hid hY
  have H4 := Lib.hid h0
  have H5 := Lib.hid hc
  clear hJ hJb hY h0 hc
  refine callsIn_of_wp Try.func35 rfl trivial ?_
  simp only [Try.ntmps35, List.size_toArray, List.length_cons, List.length_nil, Nat.reduceAdd, Nat.reduceSub, Array.replicate_succ, Array.replicate_zero, List.push_toArray, List.append_toArray, List.nil_append, List.cons_append]
  gi_wp2_with fail
  gi_loopw [3, 4, 5] (fun _ _ _ Wr => ∃ (pre : List ByteArray) (r : ByteArray), J pre Wr ∧ Wr.heap[Bp]? = some (.cells #[.string r] 9 (0, 0)) ∧ partsL p.data.toList = pre.map (·.data.toList) ++ partsL r.data.toList) (fun _ _ _ Wr => strAt Wr Bp)
  case atStart => exact ⟨[], p, H4.out, H5.out, rfl⟩
  case round =>
    obtain ⟨pre, r, hj, hcr, hp⟩ := hrel
    have hc0 : wr.cell? ⟨Bp, 0, none⟩ = some (.string r) := (blk_cell hcr 0).trans rfl
    have hf0 := blk_frozen hcr 0
    have HJ := Lib.hid hj
    have HP := Lib.hid hp
    have HCR := Lib.hid hcr
    clear hj hp hcr
    by_cases hr : r.toList = []
    · have hr1 : (r.toList == []) = true := by simp [hr]
      have hr2 : (r.toList.isEmpty) = true := by simp [hr]
      gi_wp2_with fail
      go_end0
      refine ⟨⟨_, rfl⟩, .inl ⟨pre, ?_, HJ.out⟩⟩
      have hr0 : r.data.toList = [] := by simpa [ByteArray.toList_eq] using hr
      rw [HP.out, hr0, partsL]; simp
    · have hr2 : (!r.toList.isEmpty) = true := by simp [hr]
      have hr3 : (r.toList.isEmpty) = false := by simp [hr]
      have hsz : ¬ ((r.size : Int) < 1) := by
        intro h
        apply hr
        have e : r = ByteArray.empty := ByteArray.size_eq_zero_iff.1 (by omega)
        rw [e]; simp [ByteArray.toList_eq]
      obtain ⟨t, ht⟩ : ∃ t, r.extract 1 r.size = t := ⟨_, rfl⟩
      obtain ⟨i, hi⟩ : ∃ i, Lib.indexByte t.data.toList (47 : Int).toNat.toUInt8 = i := ⟨_, rfl⟩
      have hib := (callsIn_wide (n := n - 1 - 1)).2 (Try.strings_IndexByte t 47 wr)
      have hpl : partsL r.data.toList = t.data.toList.takeWhile (· ≠ 47) :: partsL (t.data.toList.dropWhile (· ≠ 47)) := by
        rw [← ht]; exact partsL_cons r (by omega)
      have hts : t.size < r.size := by rw [← ht, ByteArray.size_extract]; omega
      by_cases h0 : 0 ≤ i
      · obtain ⟨o, rfl⟩ := Int.eq_ofNat_of_zero_le h0
        have hsp := index_span hi
        have ho : o ≤ t.size := hsp.1
        have hoi : ¬ ((t.size : Int) < (o : Int)) := by omega
        gi_wp2_with (refine ⟨trivial, (fun h => by cases h), ?_⟩; gi_at_call 36; refine hib.mono ?_; rintro e w1 ⟨rfl, rfl⟩; rw [hi])
        gi_region
        have hj2 : J pre w1.drew := H1.out _ _ _ HJ.out ⟨rfl, rfl, rfl, Nat.le_refl _, fun _ _ _ => rfl⟩
        obtain ⟨fn, tmps, assign, body, hy, hR⟩ := H3.out pre (t.extract 0 o) w1.drew ⟨partsL (t.extract o t.size).data.toList, by rw [HP.out, hpl, hsp.2.1, hsp.2.2]; simp⟩ hj2
        gi_wp2_with fail
        refine ⟨(fun h => by cases h), hR.mono ?_⟩
        rintro e W3 (⟨rfl, hJ3, hk3⟩ | ⟨rfl, hJx3⟩)
        · have hb3 := hk3.trans (blk_drew HCR.out)
          have hc3 : W3.cell? ⟨Bp, 0, none⟩ = some (.string r) := (blk_cell hb3 0).trans rfl
          have hf3 := blk_frozen hb3 0
          gi_wp2_with fail
          go_roundw
          case rel =>
            refine ⟨pre ++ [t.extract 0 o], t.extract o t.size, H1.out _ _ _ hJ3 (But.setCell _ _ _), blk_set hb3 0 _, ?_⟩
            rw [HP.out, hpl, hsp.2.1, hsp.2.2]; simp
          case measure =>
            have : (t.extract o t.size).size < r.size := by rw [ByteArray.size_extract]; omega
            simp only [strAt, blk_cell (blk_set hb3 0 _), hc0]; simpa using this
        · gi_wp2_with fail
          refine bodyPost_ret (results_none rfl _ _ _) rfl ?_
          exact ⟨⟨_, rfl⟩, .inr hJx3⟩
      · have hnn : (decide (0 ≤ i)) = false := by simpa using h0
        have hsp := index_none hi h0
        obtain ⟨fn, tmps, assign, body, hy, hR⟩ := H3.out pre t wr ⟨[], by rw [HP.out, hpl, hsp.1, hsp.2, partsL]; simp⟩ HJ.out
        gi_wp2_with (refine ⟨trivial, (fun h => by cases h), ?_⟩; gi_at_call 36; refine hib.mono ?_; rintro e w1 ⟨rfl, rfl⟩; rw [hi])
        refine ⟨(fun h => by cases h), hR.mono ?_⟩
        rintro e W3 (⟨rfl, hJ3, hk3⟩ | ⟨rfl, hJx3⟩)
        · have hb3 := hk3.trans HCR.out
          have hc3 : W3.cell? ⟨Bp, 0, none⟩ = some (.string r) := (blk_cell hb3 0).trans rfl
          have hf3 := blk_frozen hb3 0
          gi_wp2_with fail
          go_roundw
          case rel => 
            refine ⟨pre ++ [t], { data := #[] }, H1.out _ _ _ hJ3 (But.setCell _ _ _), blk_set hb3 0 _, ?_⟩
            rw [HP.out, hpl, hsp.1, hsp.2]; simp
          case measure =>
            have : ({ data := #[] } : ByteArray).size < r.size := by have : ({ data := #[] } : ByteArray).size = 0 := rfl; omega
            simp only [strAt, blk_cell (blk_set hb3 0 _), hc0]; simpa using this
        · gi_wp2_with fail
          refine bodyPost_ret (results_none rfl _ _ _) rfl ?_
          exact ⟨⟨_, rfl⟩, .inr hJx3⟩
end Go.Proofs.Ytbelfaoolnijiaa.Nm
