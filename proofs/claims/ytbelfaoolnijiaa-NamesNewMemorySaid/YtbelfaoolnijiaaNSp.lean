import Derived.Test.YtbelfaoolnijiaaNIt
import Derived.Maps.AppendAt
namespace Go.Proofs.Ytbelfaoolnijiaa.Nm
open Go.RowKit Go.Shelf
attribute [local go_sem] Oper.semAt_some

theorem checkV_01 (s : ByteArray) : checkV s = 0 ∨ checkV s = 31 := by unfold checkV; split <;> (try split) <;> simp
theorem parts_in (p : ByteArray) (w : World) : Calls Try.prog 31 #[.string p] w fun e w' => e = .returned (.func (.func 35) #[] #[.pointer (some ⟨w.heap.size, 0, none⟩)]) ∧ w' = w.alloc (.cells #[.string p] 9) := by
  refine (callsIn_wide (n := 3)).1 ?_
  refine callsIn_of_wp Try.func31 rfl trivial ?_
  simp only [Try.ntmps31, List.size_toArray, List.length_cons, List.length_nil, Nat.reduceAdd, Nat.reduceSub, Array.replicate_succ, Array.replicate_zero, List.push_toArray, List.append_toArray, List.nil_append, List.cons_append]
  gi_wp2
  go_ret
  exact ⟨rfl, rfl⟩

def partsB (p : ByteArray) : List ByteArray := (partsL p.data.toList).map (fun l => ⟨l.toArray⟩)
theorem partsB_of {xs : List ByteArray} {p : ByteArray} (h : xs.map (·.data.toList) = partsL p.data.toList) : xs = partsB p := by
  rw [partsB, ← h, List.map_map]
  exact (List.map_id'' (f := _) (fun x => rfl) xs).symm
/-- What the variable fault holds when these have come. -/
def faultOf (xs : List ByteArray) : Int := if xs.all (fun x => checkV x == 0) then 0 else 31
def splitV (a0 : ByteArray) : List ByteArray × Int :=
  if 16 < (partsB a0).length then ([], 33) else if faultOf (partsB a0) = 0 then (partsB a0, 0) else ([], 31)
def names_Split.f (a0 : ByteArray) : Option (List ByteArray × Int) :=
  some (if a0.data.toList.head? ≠ some 47 then ([], 32) else if a0.data.toList = [47] then ([], 0) else splitV a0)
theorem faultOf_snoc (xs : List ByteArray) (x : ByteArray) : faultOf (xs ++ [x]) = if faultOf xs = 0 then checkV x else faultOf xs := by
  unfold faultOf
  rw [List.all_append]
  rcases checkV_01 x with e | e <;> by_cases h : xs.all (fun x => checkV x == 0) = true <;> simp [h, e]

theorem Try.infoStr : (Try.prog.info? 9).map (fun i => (i.zero, i.size, i.bytes)) = some (some (.string { data := #[] }), 1, 16) := by kernel_rfl

theorem own_slice {w : World} {base : Nat} {e : TypeId} {size n : Nat} {v : Value} {xs : List Value} (h : w.ownsRow base e size v n xs) : ∃ A c, v = .slice A n c := by
  rcases h.2 with ⟨rfl, rfl⟩ | ⟨g, cap, cur, rfl, _⟩
  · exact ⟨_, _, rfl⟩
  · exact ⟨_, _, rfl⟩
def splI (w : World) (N : Nat) (pre : List ByteArray) (W : World) : Prop := ∃ v, Boxed W (N + 1 + 1) 22 v ∧ W.ownsRow (N + 7) 9 1 v pre.length (pre.map Value.string) ∧ Boxed W (N + 1 + 1 + 1) 24 (.int .i64 (faultOf pre)) ∧ Boxed W N 22 (.slice none 0 0) ∧ Boxed W (N + 1) 24 (.int .i64 0) ∧ pre.length ≤ 16 ∧ Below N w W
def splX (w : World) (N : Nat) (s : ByteArray) (W : World) : Prop := Boxed W N 22 (.slice none 0 0) ∧ Boxed W (N + 1) 24 (.int .i64 33) ∧ 16 < (partsB s).length ∧ Below N w W
theorem Boxed.but {W W' : World} {S : Nat → Prop} {B : Nat} {t : TypeId} {v : Value} (h : Boxed W B t v) (hb : But W W' S) (hn : ¬ S B) : Boxed W' B t v := (hb.2.2.2.2 B h.lt hn).trans h
theorem splI_but {w : World} {N : Nat} {pre : List ByteArray} {W W' : World} {S : Nat → Prop} (hS : ∀ k, S k → N + 4 ≤ k ∧ k < N + 7) (h : splI w N pre W) (hb : But W W' S) : splI w N pre W' := by
  obtain ⟨v, h1, h2, h3, h4, h5, h6, h7⟩ := h
  have hn : ∀ k, k < N + 4 → ¬ S k := fun k hk hs => by have := hS k hs; omega
  have hl := h4.lt
  exact ⟨v, Boxed.but h1 hb (hn _ (by omega)), own_move h2 (fun k hk => hb.2.2.2.2 k (own_lt h2 k hk) (fun hs => by have := hS k hs; have := own_base h2 k hk; omega)), Boxed.but h3 hb (hn _ (by omega)), Boxed.but h4 hb (hn _ (by omega)), Boxed.but h5 hb (hn _ (by omega)), h6, hb.below h7 (by omega) (fun k hk => by have := hS k hk; omega)⟩
theorem splX_but {w : World} {N : Nat} {s : ByteArray} {W W' : World} {S : Nat → Prop} (hS : ∀ k, S k → N + 4 ≤ k ∧ k < N + 7) (h : splX w N s W) (hb : But W W' S) : splX w N s W' := by
  obtain ⟨h4, h5, h6, h7⟩ := h
  have hn : ∀ k, k < N + 4 → ¬ S k := fun k hk hs => by have := hS k hs; omega
  have hl := h4.lt
  exact ⟨Boxed.but h4 hb (hn _ (by omega)), Boxed.but h5 hb (hn _ (by omega)), h6, hb.below h7 (by omega) (fun k hk => by have := hS k hk; omega)⟩

theorem Boxed.below {W W' : World} {B : Nat} {t : TypeId} {v : Value} (h : Boxed W B t v) (hb : Below W.heap.size W W') : Boxed W' B t v := (hb.block B h.lt).trans h
theorem Boxed.far {W : World} {B : Nat} {t : TypeId} {v : Value} (h : Boxed W B t v) {p : Addr} (hp : B ≠ p.block) (u : Value) : Boxed (W.setCell p u) B t v := (Below.heap_setCell W p u B hp).trans h
theorem spl_close {w W Wc w1 : World} {N : Nat} {pre : List ByteArray} {x : ByteArray} {v v' : Value} {tmp : Obj} {Ix : World → Prop} {a : Act} (hsize : N + 6 < Wc.heap.size) (hv : Boxed Wc (N + 1 + 1) 22 v)
    (hrow : Wc.ownsRow (N + 7) 9 1 v pre.length (pre.map Value.string)) (hfa : Boxed Wc (N + 1 + 1 + 1) 24 (.int .i64 (faultOf (pre ++ [x])))) (hr0 : Boxed Wc N 22 (.slice none 0 0)) (hr1 : Boxed Wc (N + 1) 24 (.int .i64 0)) (hle : pre.length < 16) (hB : Below N w Wc)
    (hk : ∀ k, N + 4 ≤ k → k < N + 7 → Wc.heap[k]? = W.heap[k]?) (hown' : w1.ownsRow (N + 7) 9 1 v' (pre.length + 1) (pre.map Value.string ++ [.string x])) (hgrow : (Wc.alloc tmp).grownBy w1 v.ownBlock) :
    roundLeft (N + 5 + 1) (N + 5) (N + 4) (splI w N (pre ++ [x])) Ix W .normal a (w1.setCell ⟨N + 1 + 1, 0, none⟩ v') := by
  obtain ⟨hv1, hv2, _, _, hb2⟩ := Boxed.appended hv (by decide) (own_weaken hrow (by omega : N ≤ N + 7)) (by omega) (by omega) (own_weaken hown' (by omega : N ≤ N + 7)) hgrow
  have hne : ∀ k, k < N + 7 → some k ≠ v.ownBlock := fun k hk e => by have := own_base hrow k e.symm; omega
  have keep : ∀ k, k < N + 7 → k ≠ N + 1 + 1 → (w1.setCell ⟨N + 1 + 1, 0, none⟩ v').heap[k]? = Wc.heap[k]? := fun k h1 h2 =>
    (Below.heap_setCell _ _ _ k h2).trans ((hgrow.block k (by simp; omega) (hne k h1)).trans (Below.heap_alloc _ _ _ (by omega)))
  refine ⟨(keep _ (by omega) (by omega)).trans (hk _ (by omega) (by omega)), (keep _ (by omega) (by omega)).trans (hk _ (by omega) (by omega)), (keep _ (by omega) (by omega)).trans (hk _ (by omega) (by omega)), ?_⟩
  refine ⟨v', hv2, ?_, (keep _ (by omega) (by omega)).trans hfa, (keep _ (by omega) (by omega)).trans hr0, (keep _ (by omega) (by omega)).trans hr1, by simp; omega, hB.trans hb2⟩
  have := hown'.kept (grownBy_setCell' w1 (N + 1 + 1) v') (.inr (hv1.not_row (by decide) hown').symm)
  simpa using this

theorem Boxed.put {W : World} {B D : Nat} {t : TypeId} {v : Value} (h : Boxed W B t v) (hn : B ≠ D) (o : Obj) : Boxed (W.putObj D o) B t v := (World.putObj_heap_other (fun e => hn e)).trans h
theorem fin_row {W : World} {N n : Nat} {v : Value} {xs : List Value} (h : W.ownsRow (N + 7) 9 1 v n xs) (a b : Value) (o : Obj) : (((W.setCell ⟨N, 0, none⟩ a).setCell ⟨N + 1, 0, none⟩ b).putObj (N + 5) o).ownsRow N 9 1 v n xs :=
  own_weaken (own_move h fun k hk => by
    have := own_base h k hk
    rw [World.putObj_heap_other (by omega), Below.heap_setCell _ _ _ _ (by simp; omega), Below.heap_setCell _ _ _ _ (by simp; omega)]) (by omega)
theorem splitV_deep {s : ByteArray} (h : 16 < (partsB s).length) : splitV s = ([], 33) := by simp [splitV, h]
theorem splitV_good {s : ByteArray} (h : (partsB s).length ≤ 16) (hf : faultOf (partsB s) = 0) : splitV s = (partsB s, 0) := by simp [splitV, show ¬ 16 < (partsB s).length by omega, hf]
theorem splitV_bad {s : ByteArray} (h : (partsB s).length ≤ 16) (hf : ¬ faultOf (partsB s) = 0) : splitV s = ([], 31) := by simp [splitV, show ¬ 16 < (partsB s).length by omega, hf]
theorem faultOf_bad {xs : List ByteArray} (hf : ¬ faultOf xs = 0) : faultOf xs = 31 := by unfold faultOf at *; split <;> simp_all

theorem split_main (s : ByteArray) (h0 : (s.toList == []) = false) (h1 : (s.toList == [47]) = false) (hs : 0 < s.size) (hb : (s[0]'hs) = 47) (w : World) :
    Calls Try.prog 16 #[.string s] w fun e w' => ∃ v0_ : Value, e = .returned (.tuple #[v0_, .int .i64 (splitV s).2]) ∧ w'.ownsRow w.heap.size 9 1 v0_ (splitV s).1.length ((splitV s).1.map Value.string) ∧ Below w.heap.size w w' := by
  refine (callsIn_wide (n := 9)).1 ?_
  refine callsIn_of_wp_marks Try.func16 rfl trivial ?_
  simp only [Try.ntmps16, List.size_toArray, List.length_cons, List.length_nil, Nat.reduceAdd, Nat.reduceSub, Array.replicate_succ, Array.replicate_zero, List.push_toArray, List.append_toArray, List.nil_append, List.cons_append]
  gi_wp2_with (refine ⟨trivial, ?_⟩; gi_at_call 31; refine (callsIn_wide.2 (parts_in s _)).mono ?_; rintro e w1 ⟨rfl, rfl⟩)
  obtain ⟨W0, hW0⟩ : ∃ W0, (((((w.alloc (Obj.cells #[Value.slice none 0 0] 22)).alloc (Obj.cells #[Value.int IntKind.i64 0] 24)).alloc (Obj.cells #[Value.slice none 0 0] 22)).alloc (Obj.cells #[Value.int IntKind.i64 0] 24)).alloc (Obj.cells #[Value.string s] 9)) = W0 := ⟨_, rfl⟩
  have hsz : W0.heap.size = w.heap.size + 5 := by rw [← hW0]; simp
  have b0 : Boxed W0 w.heap.size 22 (.slice none 0 0) := by
    rw [← hW0]; exact ((((Boxed.new w _ _).alloc _).alloc _).alloc _).alloc _
  have b1 : Boxed W0 (w.heap.size + 1) 24 (.int .i64 0) := by
    rw [← hW0]; have := Boxed.new (w.alloc (Obj.cells #[Value.slice none 0 0] 22)) 24 (.int .i64 0)
    rw [World.size_alloc] at this; exact ((this.alloc _).alloc _).alloc _
  have b2 : Boxed W0 (w.heap.size + 1 + 1) 22 (.slice none 0 0) := by
    rw [← hW0]; have := Boxed.new ((w.alloc (Obj.cells #[Value.slice none 0 0] 22)).alloc (Obj.cells #[Value.int IntKind.i64 0] 24)) 22 (.slice none 0 0)
    rw [World.size_alloc, World.size_alloc] at this; exact (this.alloc _).alloc _
  have b3 : Boxed W0 (w.heap.size + 1 + 1 + 1) 24 (.int .i64 0) := by
    rw [← hW0]; have := Boxed.new (((w.alloc (Obj.cells #[Value.slice none 0 0] 22)).alloc (Obj.cells #[Value.int IntKind.i64 0] 24)).alloc (Obj.cells #[Value.slice none 0 0] 22)) 24 (.int .i64 0)
    rw [World.size_alloc, World.size_alloc, World.size_alloc] at this; exact this.alloc _
  have b4 : Boxed W0 (w.heap.size + 4) 9 (.string s) := by
    rw [← hW0]; have := Boxed.new ((((w.alloc (Obj.cells #[Value.slice none 0 0] 22)).alloc (Obj.cells #[Value.int IntKind.i64 0] 24)).alloc (Obj.cells #[Value.slice none 0 0] 22)).alloc (Obj.cells #[Value.int IntKind.i64 0] 24)) 9 (.string s)
    rw [World.size_alloc, World.size_alloc, World.size_alloc, World.size_alloc] at this; exact this
  have hbel : Below w.heap.size w W0 := by
    rw [← hW0]; exact ((((((Below.refl _ w).alloc (Nat.le_refl _) _).alloc (by simp) _).alloc (by simp; omega) _).alloc (by simp; omega) _).alloc (by simp; omega) _)
  simp only [hW0]
  have hbig : w.heap.size + 1 + 1 + 1 + 1 = w.heap.size + 4 := by omega
  refine range_own (n := 9) (gf := 35) (lb := #[.pointer (some ⟨w.heap.size + 1 + 1 + 1 + 1, 0, none⟩)]) rfl (enters_of Try.func35 (by kernel_rfl) rfl) (w.heap.size + 1 + 1 + 1 + 1) (by omega)
    (splI w w.heap.size) (splX w w.heap.size s) (fun xs => xs.map (·.data.toList) = partsL s.data.toList) (fun q => q.map (·.data.toList) <+: partsL s.data.toList)
    (fun pre A B h hb => splI_but (by rintro k (rfl | rfl | rfl) <;> omega) h hb) (fun A B h hb => splX_but (by rintro k (rfl | rfl | rfl) <;> omega) h hb) ?h0 ?hit
    (fun x => { tmps := #[.string s, undef, .pointer (some ⟨w.heap.size, 0, none⟩), .pointer (some ⟨w.heap.size + 1, 0, none⟩), .pointer (some ⟨w.heap.size + 1 + 1, 0, none⟩), .pointer (some ⟨w.heap.size + 1 + 1 + 1, 0, none⟩),
      .string x, .string s, .bool false, .bool false, .string s, .int .u8 47, .bool false, .bool false, .string s, .bool false, .string s, .func (.func 35) #[] #[.pointer (some ⟨w.heap.size + 1 + 1 + 1 + 1, 0, none⟩)], .string x,
      undef, undef, undef, undef, undef, undef, undef, undef, undef, undef, undef, undef, undef, undef, undef], defers := [] }) ?assign ?body ?done ?stop
  case h0 => exact ⟨.slice none 0 0, b2, World.ownsRow_nil _ _ _ _, b3, b0, b1, by simp, hbel⟩
  case hit =>
    intro J Jx W hJ hJb hY h0 hcell
    exact iter_in 9 (W0.heap.size + 1) _ s J Jx W hJ hJb hY h0 (hcell.trans (by rw [hbig]; exact b4))
  case assign =>
    intro l x W K hK
    gi_wp2
    exact hK
  case body =>
    rintro pre x W hok ⟨v, hv, hrow, hfa, hr0, hr1, hle, hB⟩ hlt
    obtain ⟨A, c, rfl⟩ := own_slice hrow
    have hvc := hv.cell
    have hvf := hv.frozen
    have hfc := hfa.cell
    have hff := hfa.frozen
    have h0c := hr0.cell
    have h0f := hr0.frozen
    have h1c := hr1.cell
    have h1f := hr1.frozen
    obtain ⟨i0, hi, hz0, hz1, hz2⟩ := info_parts Try.infoStr
    by_cases h16 : pre.length = 16
    · have hq : (decide ((pre.length : Int) = 16)) = true := by simp [h16]
      gi_wp2_with fail
      refine ⟨?_, ?_, ?_⟩
      · rw [Below.heap_setCell _ _ _ _ (by simp <;> omega), Below.heap_setCell _ _ _ _ (by simp <;> omega)]
      · rw [Below.heap_setCell _ _ _ _ (by simp <;> omega), Below.heap_setCell _ _ _ _ (by simp <;> omega)]
      · refine ⟨Boxed.far (hr0.set _) (by simp) _, (Boxed.far hr1 (by simp) _).set _, ?_, (hB.setCell (p := ⟨w.heap.size, 0, none⟩) (Nat.le_refl _) _).setCell (p := ⟨w.heap.size + 1, 0, none⟩) (Nat.le_succ _) _⟩
        have hl := hok.length_le
        have he : (partsB s).length = (partsL s.data.toList).length := by simp [partsB]
        simp at hl; omega
    · have hq : (decide ((pre.length : Int) = 16)) = false := by simp; omega
      by_cases hf0 : faultOf pre = 0
      · have hf1 : (faultOf pre == 0) = true := by simp [hf0]
        gi_wp2_with first
          | (refine ⟨trivial, ?_⟩; gi_at_call 13; refine (CallsIn.inRound _ (callsIn_wide.2 (names_Check.calls x _ W rfl))).mono ?_; rintro e wc ⟨rfl, hbc⟩
             have hvw := (Boxed.below hv hbc).cell; have hvfw := (Boxed.below hv hbc).frozen; have hfw := (Boxed.below hfa hbc).cell; have hffw := (Boxed.below hfa hbc).frozen
             have hone : ∀ j u, [Value.string x][j]? = some u → ((wc.setCell ⟨w.heap.size + 1 + 1 + 1, 0, none⟩ (.int .i64 (checkV x))).alloc (.cells #[.string x] 9)).cell? ((⟨wc.heap.size, 0, none⟩ : Addr).add j) = some u := by
               have hz : (wc.setCell ⟨w.heap.size + 1 + 1 + 1, 0, none⟩ (.int .i64 (checkV x))).heap.size = wc.heap.size := by simp
               have := cell_one_new (wc.setCell ⟨w.heap.size + 1 + 1 + 1, 0, none⟩ (.int .i64 (checkV x))) (.string x) 9
               rwa [hz] at this
             have hrowc : (wc.setCell ⟨w.heap.size + 1 + 1 + 1, 0, none⟩ (.int .i64 (checkV x))).ownsRow (w.heap.size + 7) 9 1 (Value.slice A pre.length c) pre.length (List.map Value.string pre) := own_move hrow (fun k hk => (Below.heap_setCell _ _ _ k (by have := own_base hrow k hk; simp; omega)).trans (hbc.block k (own_lt hrow k hk))))
          | (gi_at_builtin; refine wpListIn_append_own _ rfl _ _ 22 rfl (w.heap.size + 7) 9 i0 _ 1 16 (by kernel_rfl) hi hz0 hz1 hz2 rfl (by decide) _ _ _ rfl (hrowc.alloc _) ⟨wc.heap.size, 0, none⟩ 1 1 [.string x] rfl rfl hone (by simp [Value.oneCell']) (by simp [maxLen]; omega) (by omega) (by have := hbc.size; simp; omega) ?_
             intro v' w1 hown' hgrow _; obtain ⟨g', cap', rfl⟩ := ownsRow_succ hown'
             have hv1 := ((Boxed.far (p := ⟨w.heap.size + 1 + 1 + 1, 0, none⟩) (Boxed.below hv hbc) (by simp) (.int .i64 (checkV x))).alloc _).kept hgrow (fun e => by have := own_base hrow _ e.symm; omega)
             have hc1 := hv1.cell; have hf1 := hv1.frozen)
        simp only [hsz]
        exact spl_close (by have := hbc.size; simp; omega) (Boxed.far (p := ⟨w.heap.size + 1 + 1 + 1, 0, none⟩) (Boxed.below hv hbc) (by simp) _) hrowc (by rw [faultOf_snoc, if_pos hf0]; exact (Boxed.below hfa hbc).set _) (Boxed.far (Boxed.below hr0 hbc) (by simp; omega) _) (Boxed.far (Boxed.below hr1 hbc) (by simp) _) (by omega)
          ((hB.trans (hbc.mono (by omega))).setCell (p := ⟨w.heap.size + 1 + 1 + 1, 0, none⟩) (by simp; omega) _) (fun k h1 h2 => (Below.heap_setCell _ _ _ _ (by simp; omega)).trans (hbc.block k (by omega))) hown' hgrow
      · have hf1 : (faultOf pre == 0) = false := by simp [hf0]
        gi_wp2_with 
          (gi_at_builtin; refine wpListIn_append_own _ rfl _ _ 22 rfl (w.heap.size + 7) 9 i0 _ 1 16 (by kernel_rfl) hi hz0 hz1 hz2 rfl (by decide) _ _ _ rfl (hrow.alloc _) ⟨W.heap.size, 0, none⟩ 1 1 [.string x] rfl rfl (cell_one_new _ _ _) (by simp [Value.oneCell']) (by simp [maxLen]; omega) (by omega) (by simp; omega) ?_
           intro v' w1 hown' hgrow _; obtain ⟨g', cap', rfl⟩ := ownsRow_succ hown'
           have hv1 := (hv.alloc _).kept hgrow (fun e => by have := own_base hrow _ e.symm; omega)
           have hc1 := hv1.cell; have hf1 := hv1.frozen)
        exact spl_close (by omega) hv hrow (by rw [faultOf_snoc, if_neg hf0]; exact hfa) hr0 hr1 (by omega) hB (fun _ _ _ => rfl) hown' hgrow
  case done =>
    intro xs W hfin ⟨v, hv, hrow, hfa, hr0, hr1, hle, hB⟩ hK
    obtain ⟨A, c, rfl⟩ := own_slice hrow
    obtain rfl := partsB_of hfin
    simp only [hsz] at hK ⊢
    have hvc := hv.cell
    have hvf := hv.frozen
    have hfc := hfa.cell
    have hff := hfa.frozen
    have h0c := hr0.cell
    have h0f := hr0.frozen
    have h1c := hr1.cell
    have h1f := hr1.frozen
    by_cases hf0 : faultOf (partsB s) = 0
    · have hf1 : (faultOf (partsB s) == 0) = true := by simp [hf0]
      gi_wp2_with fail
      refine ⟨by simp, .inl ⟨_, _, rfl, run_takeDeferred (((Below.heap_setCell _ _ _ _ (by simp)).trans (Below.heap_setCell _ _ _ _ (by simp))).trans hK), ?_⟩⟩
      have ho := fin_row hrow (Value.slice A (partsB s).length c) (.int .i64 0) (.deferred none)
      have e0 := (Boxed.put (D := w.heap.size + 5) (Boxed.far (p := ⟨w.heap.size + 1, 0, none⟩) (hr0.set (Value.slice A (partsB s).length c)) (by simp) (.int .i64 0)) (by omega) (.deferred none)).cell
      have e1 := (Boxed.put (D := w.heap.size + 5) ((Boxed.far (p := ⟨w.heap.size, 0, none⟩) hr1 (by simp) (Value.slice A (partsB s).length c)).set (.int .i64 0)) (by omega) (.deferred none)).cell
      have hbf := (but_put ((W.setCell ⟨w.heap.size, 0, none⟩ (Value.slice A (partsB s).length c)).setCell ⟨w.heap.size + 1, 0, none⟩ (.int .i64 0)) (w.heap.size + 5) (.deferred none)).below (n := w.heap.size) (w := w)
        ((hB.setCell (p := ⟨w.heap.size, 0, none⟩) (Nat.le_refl _) _).setCell (p := ⟨w.heap.size + 1, 0, none⟩) (Nat.le_succ _) _) (by have := hr0.lt; simp; omega) (by rintro k rfl; omega)
      obtain ⟨Wf, hWf⟩ : ∃ Wf, (((W.setCell ⟨w.heap.size, 0, none⟩ (Value.slice A (partsB s).length c)).setCell ⟨w.heap.size + 1, 0, none⟩ (.int .i64 0)).putObj (w.heap.size + 5) (.deferred none)) = Wf := ⟨_, rfl⟩
      rw [hWf] at ho e0 e1 hbf ⊢
      rw [splitV_good hle hf0]
      exact ⟨.tuple #[Value.slice A (partsB s).length c, .int .i64 0], by simp [results, Try.results16, go_sem, e0, e1], _, rfl, ho, hbf⟩
    · have hf1 : (faultOf (partsB s) == 0) = false := by simp [hf0]
      gi_wp2_with fail
      gi_region
      gi_wp2_with fail
      have hK2 : ((W.setCell ⟨w.heap.size, 0, none⟩ (Value.slice none 0 0)).setCell ⟨w.heap.size + 1, 0, none⟩ (.int .i64 (faultOf (partsB s)))).drew.heap[w.heap.size + 5]? = some (Obj.deferred (some [])) :=
        ((Below.heap_setCell (W.setCell ⟨w.heap.size, 0, none⟩ (Value.slice none 0 0)) ⟨w.heap.size + 1, 0, none⟩ _ _ (by simp)).trans (Below.heap_setCell _ _ _ _ (by simp))).trans hK
      refine ⟨by simp, .inl ⟨_, _, rfl, run_takeDeferred hK2, ?_⟩⟩
      have e0 : (((W.setCell ⟨w.heap.size, 0, none⟩ (Value.slice none 0 0)).setCell ⟨w.heap.size + 1, 0, none⟩ (.int .i64 (faultOf (partsB s)))).drew.putObj (w.heap.size + 5) (.deferred none)).cell? ⟨w.heap.size, 0, none⟩ = some (Value.slice none 0 0) :=
        (Boxed.put (W := ((W.setCell ⟨w.heap.size, 0, none⟩ (Value.slice none 0 0)).setCell ⟨w.heap.size + 1, 0, none⟩ (.int .i64 (faultOf (partsB s)))).drew) (D := w.heap.size + 5) (Boxed.far (p := ⟨w.heap.size + 1, 0, none⟩) (hr0.set (Value.slice none 0 0)) (by simp) (.int .i64 (faultOf (partsB s)))) (by omega) (.deferred none)).cell
      have e1 : (((W.setCell ⟨w.heap.size, 0, none⟩ (Value.slice none 0 0)).setCell ⟨w.heap.size + 1, 0, none⟩ (.int .i64 (faultOf (partsB s)))).drew.putObj (w.heap.size + 5) (.deferred none)).cell? ⟨w.heap.size + 1, 0, none⟩ = some (.int .i64 (faultOf (partsB s))) :=
        (Boxed.put (W := ((W.setCell ⟨w.heap.size, 0, none⟩ (Value.slice none 0 0)).setCell ⟨w.heap.size + 1, 0, none⟩ (.int .i64 (faultOf (partsB s)))).drew) (D := w.heap.size + 5) ((Boxed.far (p := ⟨w.heap.size, 0, none⟩) hr1 (by simp) (Value.slice none 0 0)).set (.int .i64 (faultOf (partsB s)))) (by omega) (.deferred none)).cell
      have hbd : Below w.heap.size w ((W.setCell ⟨w.heap.size, 0, none⟩ (Value.slice none 0 0)).setCell ⟨w.heap.size + 1, 0, none⟩ (.int .i64 (faultOf (partsB s)))).drew :=
        ((hB.setCell (p := ⟨w.heap.size, 0, none⟩) (Nat.le_refl _) (Value.slice none 0 0)).setCell (p := ⟨w.heap.size + 1, 0, none⟩) (Nat.le_succ _) (.int .i64 (faultOf (partsB s)))).drew
      have hbf := (but_put ((W.setCell ⟨w.heap.size, 0, none⟩ (Value.slice none 0 0)).setCell ⟨w.heap.size + 1, 0, none⟩ (.int .i64 (faultOf (partsB s)))).drew (w.heap.size + 5) (.deferred none)).below (n := w.heap.size) (w := w)
        hbd (by have := hr0.lt; simp; omega) (by rintro k rfl; omega)
      obtain ⟨Wf, hWf⟩ : ∃ Wf, (((W.setCell ⟨w.heap.size, 0, none⟩ (Value.slice none 0 0)).setCell ⟨w.heap.size + 1, 0, none⟩ (.int .i64 (faultOf (partsB s)))).drew.putObj (w.heap.size + 5) (.deferred none)) = Wf := ⟨_, rfl⟩
      rw [hWf] at e0 e1 hbf ⊢
      rw [splitV_bad hle hf0]
      rw [faultOf_bad hf0] at e1
      exact ⟨.tuple #[Value.slice none 0 0, .int .i64 31], by simp [results, Try.results16, go_sem, e0, e1], _, rfl, World.ownsRow_nil _ _ _ _, hbf⟩
  case stop =>
    intro W ⟨hr0, hr1, h16, hB⟩ hK
    simp only [hsz] at hK ⊢
    have h0c := hr0.cell
    have h0f := hr0.frozen
    have h1c := hr1.cell
    have h1f := hr1.frozen
    gi_wp2_with fail
    refine ⟨by simp, .inl ⟨_, _, rfl, run_takeDeferred hK, ?_⟩⟩
    have e0 := (Boxed.put (D := w.heap.size + 5) hr0 (by omega) (.deferred none)).cell
    have e1 := (Boxed.put (D := w.heap.size + 5) hr1 (by omega) (.deferred none)).cell
    have hbf := (but_put W (w.heap.size + 5) (.deferred none)).below (n := w.heap.size) (w := w) hB (by have := hr0.lt; omega) (by rintro k rfl; omega)
    obtain ⟨Wf, hWf⟩ : ∃ Wf, (W.putObj (w.heap.size + 5) (.deferred none)) = Wf := ⟨_, rfl⟩
    rw [hWf] at e0 e1 hbf ⊢
    rw [splitV_deep h16]
    exact ⟨.tuple #[Value.slice none 0 0, .int .i64 33], by simp [results, Try.results16, go_sem, e0, e1], _, rfl, World.ownsRow_nil _ _ _ _, hbf⟩

theorem short_fin (w : World) (r : Int) : ((w.alloc (Obj.cells #[Value.slice none 0 0] 22)).alloc (Obj.cells #[Value.int IntKind.i64 r] 24)).cell? ⟨w.heap.size, 0, none⟩ = some (.slice none 0 0) ∧ ((w.alloc (Obj.cells #[Value.slice none 0 0] 22)).alloc (Obj.cells #[Value.int IntKind.i64 r] 24)).cell? ⟨w.heap.size + 1, 0, none⟩ = some (.int .i64 r) ∧ Below w.heap.size w ((w.alloc (Obj.cells #[Value.slice none 0 0] 22)).alloc (Obj.cells #[Value.int IntKind.i64 r] 24)) := by
  refine ⟨((Boxed.new w 22 (.slice none 0 0)).alloc _).cell, ?_, ((Below.refl _ w).alloc (Nat.le_refl _) _).alloc (by simp) _⟩
  have := (Boxed.new (w.alloc (Obj.cells #[Value.slice none 0 0] 22)) 24 (.int .i64 r)).cell
  rwa [World.size_alloc] at this
theorem split_short (s : ByteArray) (r : Int) (w : World)
    (h : (s.toList.isEmpty = true ∧ r = 32) ∨ (∃ hs : 0 < s.size, (s[0]'hs) ≠ 47 ∧ (s.toList == []) = false ∧ r = 32) ∨ ((s.toList == []) = false ∧ (s.toList == [47]) = true ∧ (∃ hs : 0 < s.size, (s[0]'hs) = 47) ∧ r = 0)) :
    Calls Try.prog 16 #[.string s] w fun e w' => ∃ v0_ : Value, e = .returned (.tuple #[v0_, .int .i64 r]) ∧ w'.ownsRow w.heap.size 9 1 v0_ 0 [] ∧ Below w.heap.size w w' := by
  refine (callsIn_wide (n := 9)).1 ?_
  refine callsIn_of_wp Try.func16 rfl trivial ?_
  simp only [Try.ntmps16, List.size_toArray, List.length_cons, List.length_nil, Nat.reduceAdd, Nat.reduceSub, Array.replicate_succ, Array.replicate_zero, List.push_toArray, List.append_toArray, List.nil_append, List.cons_append]
  rcases h with ⟨h1, rfl⟩ | ⟨hs, hb, h1, rfl⟩ | ⟨h1, h2, ⟨hs, hb⟩, rfl⟩
  · have h2 : (s.toList == []) = true := by simpa using h1
    gi_wp2_with fail
    obtain ⟨c0, c1, hb⟩ := short_fin w 32
    exact bodyPost_ret (v := .tuple #[.slice none 0 0, .int .i64 32]) (by simp [results, Try.results16, go_sem, c0, c1]) rfl ⟨_, rfl, World.ownsRow_nil _ _ _ _, hb⟩
  · have hb2 : (((s[0]'hs).toNat : Int) != 47) = true := by
      have h47 : ¬ (s[0]'hs).toNat = 47 := fun e => hb (UInt8.toNat_inj.1 e)
      simp; omega
    gi_wp2_with fail
    obtain ⟨c0, c1, hb⟩ := short_fin w 32
    exact bodyPost_ret (v := .tuple #[.slice none 0 0, .int .i64 32]) (by simp [results, Try.results16, go_sem, c0, c1]) rfl ⟨_, rfl, World.ownsRow_nil _ _ _ _, hb⟩
  · gi_wp2_with fail
    obtain ⟨c0, c1, hb⟩ := short_fin w 0
    exact bodyPost_ret (v := .tuple #[.slice none 0 0, .int .i64 0]) (by simp [results, Try.results16, go_sem, c0, c1]) rfl ⟨_, rfl, World.ownsRow_nil _ _ _ _, hb⟩

theorem names_Split.calls (a0 : ByteArray) (r1 : List ByteArray) (r2 : Int) (w : World) (h : names_Split.f a0 = some (r1, r2)) :
    Calls Try.prog 16 #[.string a0] w fun e w' => ∃ v0_ : Value, e = .returned (.tuple #[v0_, .int .i64 r2]) ∧ w'.ownsRow w.heap.size 9 1 v0_ r1.length (r1.map Value.string) ∧ Below w.heap.size w w' := by
  unfold names_Split.f at h
  have h := Option.some.inj h
  have hlist : a0.toList = a0.data.toList := by simp [ByteArray.toList_eq]
  have short : ∀ r : Int, ([], r) = (r1, r2) → ((a0.toList.isEmpty = true ∧ r = 32) ∨ (∃ hs : 0 < a0.size, (a0[0]'hs) ≠ 47 ∧ (a0.toList == []) = false ∧ r = 32) ∨ ((a0.toList == []) = false ∧ (a0.toList == [47]) = true ∧ (∃ hs : 0 < a0.size, (a0[0]'hs) = 47) ∧ r = 0)) →
      Calls Try.prog 16 #[.string a0] w fun e w' => ∃ v0_ : Value, e = .returned (.tuple #[v0_, .int .i64 r2]) ∧ w'.ownsRow w.heap.size 9 1 v0_ r1.length (r1.map Value.string) ∧ Below w.heap.size w w' := by
    intro r hr hh
    obtain ⟨rfl, rfl⟩ := Prod.mk.inj hr
    refine (split_short a0 r w hh).mono ?_
    rintro e w' ⟨v, he, ho, hb⟩
    exact ⟨v, he, ho, hb⟩
  cases hl : a0.data.toList with
  | nil =>
    rw [hl] at h
    exact short 32 (by simpa using h) (.inl ⟨by rw [hlist, hl]; rfl, rfl⟩)
  | cons c t =>
    have hs : 0 < a0.size := by have e : a0.size = a0.data.toList.length := by simp [← ByteArray.size_data]
                                rw [e, hl]; simp
    have hc : a0[0]'hs = c := by
      have : a0.data.toList[0]? = some c := by rw [hl]; rfl
      have h2 : a0.data[0]? = some c := by simpa using this
      obtain ⟨_, h3⟩ := Array.getElem?_eq_some_iff.1 h2
      exact h3
    have hne : (a0.toList == []) = false := by rw [hlist, hl]; rfl
    by_cases h47 : c = 47
    · subst h47
      by_cases ht : t = []
      · subst ht
        rw [hl] at h
        exact short 0 (by simpa using h) (.inr (.inr ⟨hne, by rw [hlist, hl]; rfl, ⟨hs, hc⟩, rfl⟩))
      · rw [hl] at h
        have h2 : splitV a0 = (r1, r2) := by simpa [ht] using h
        have := split_main a0 hne (by rw [hlist, hl]; simpa using ht) hs hc w
        rw [h2] at this
        refine this.mono ?_
        rintro e w' ⟨v, he, ho, hb⟩
        exact ⟨v, he, ho, hb⟩
    · rw [hl] at h
      exact short 32 (by simpa [h47] using h) (.inr (.inl ⟨hs, by rw [hc]; exact h47, hne, rfl⟩))
end Go.Proofs.Ytbelfaoolnijiaa.Nm
