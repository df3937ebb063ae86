import Derived.RangeFuncNested
import Derived.RangeFuncBound
import Derived.RangeFuncCalls
import Derived.RangeFuncLeaves
import Derived.Shelf.Abstract
import Derived.Shelf.RegionOpen
import Derived.WalkKit
import Derived.OwnWalkIn
import Derived.TacticsInMore
import Derived.LoopNIn
import Derived.LoopIn
import Derived.Test.YtbelfaoolnijiaaNCk
import Derived.Test.YtbelfaoolnijiaaNSh
import Derived.Test.YtbelfaoolnijiaaNW
namespace Go.Proofs.Ytbelfaoolnijiaa.Nm
open Go.RowKit Go.Shelf

/-- What the round of a loop over an iterator leaves: where it goes on, three blocks stand as they stood. -/
def roundLeft (l D Bp : Nat) (I : World → Prop) (Ix : World → Prop) (W : World) : Exit → Act → World → Prop
  | .normal, _, W' => W'.heap[l]? = W.heap[l]? ∧ W'.heap[D]? = W.heap[D]? ∧ W'.heap[Bp]? = W.heap[Bp]? ∧ I W'
  | .ret, _, W' => W'.heap[l]? = W.heap[l]? ∧ W'.heap[D]? = W.heap[D]? ∧ Ix W'
  | _, _, _ => False
/-- A world that differs from another at blocks of S alone (and has more). -/
def But (W W' : World) (S : Nat → Prop) : Prop := W'.os = W.os ∧ W'.tape = W.tape ∧ W'.output = W.output ∧ W.heap.size ≤ W'.heap.size ∧ ∀ k, k < W.heap.size → ¬ S k → W'.heap[k]? = W.heap[k]?
theorem but_put (W : World) (l : Nat) (o : Obj) : But W (W.putObj l o) (fun k => k = l) := ⟨rfl, rfl, rfl, by simp [World.putObj], fun k _ hk => World.putObj_heap_other (fun e => hk e)⟩
theorem But.refl (W : World) (S : Nat → Prop) : But W W S := ⟨rfl, rfl, rfl, Nat.le_refl _, fun _ _ _ => rfl⟩
theorem But.mono {W W' : World} {S S' : Nat → Prop} (h : But W W' S) (hs : ∀ k, S k → S' k) : But W W' S' := ⟨h.1, h.2.1, h.2.2.1, h.2.2.2.1, fun k hk hn => h.2.2.2.2 k hk (fun e => hn (hs k e))⟩
theorem But.alloc (W : World) (o : Obj) (S : Nat → Prop) : But W (W.alloc o) S := ⟨rfl, rfl, rfl, by simp, fun k hk _ => Below.heap_alloc _ _ _ hk⟩
theorem But.setCell (W : World) (p : Addr) (v : Value) : But W (W.setCell p v) (fun k => k = p.block) := ⟨rfl, rfl, rfl, by simp [World.setCell], fun k _ hn => Below.heap_setCell _ _ _ _ hn⟩
theorem But.trans {A B C : World} {S : Nat → Prop} (h : But A B S) (k : But B C S) : But A C S :=
  ⟨k.1.trans h.1, k.2.1.trans h.2.1, k.2.2.1.trans h.2.2.1, Nat.le_trans h.2.2.2.1 k.2.2.2.1, fun i hi hn => (k.2.2.2.2 i (Nat.lt_of_lt_of_le hi h.2.2.2.1) hn).trans (h.2.2.2.2 i hi hn)⟩
theorem But.below {A B : World} {S : Nat → Prop} {n : Nat} {w : World} (h : But A B S) (hb : Below n w A) (hn : n ≤ A.heap.size) (hS : ∀ k, S k → n ≤ k) : Below n w B :=
  hb.trans ⟨h.1, h.2.1, h.2.2.1, h.2.2.2.1, fun k hk => h.2.2.2.2 k (by omega) (fun e => by have := hS k e; omega)⟩

/-- The statement 'for x := range g { .. }', g a closure that keeps where it is in a variable of its own (block Bp). -/
theorem range_own {n : Nat} {g : Operand} {pt : Nat} {assign body : Code} {Q : Exit → Act → World → Prop} {a : Act} {w : World} {gf : Nat} {lb : Array Value}
    (hg : a.eval g = .func (.func gf) #[] lb) (eg : ∀ args w, (callFunc gf args).run Try.prog w = .ok (.enter gf args) w)
    (Bp : Nat) (hBp : Bp < w.heap.size) (I : List ByteArray → World → Prop) (Ix : World → Prop) (fin ok : List ByteArray → Prop)
    (hI : ∀ pre W W', I pre W → But W W' (fun k => k = Bp ∨ k = w.heap.size ∨ k = w.heap.size + 1) → I pre W')
    (hIx : ∀ W W', Ix W → But W W' (fun k => k = Bp ∨ k = w.heap.size ∨ k = w.heap.size + 1) → Ix W') (h0 : I [] w)
    (hit : ∀ (J : List ByteArray → World → Prop) (Jx : World → Prop) (W : World), (∀ pre W W', J pre W → But W W' (fun k => k = Bp) → J pre W') → (∀ pre W, J pre W → Bp < W.heap.size) →
      (∀ pre x W, ok (pre ++ [x]) → J pre W → YieldAt Fence.wide (n - 1 - 1) Try.prog (w.heap.size + 1) #[.string x] W fun e W' => (e = .returned (.bool true) ∧ J (pre ++ [x]) W' ∧ W'.heap[Bp]? = W.heap[Bp]?) ∨ (e = .returned (.bool false) ∧ Jx W')) →
      J [] W → W.heap[Bp]? = w.heap[Bp]? →
      CallsIn Fence.wide (n - 1) Try.prog gf (#[.func (.yield (w.heap.size + 1)) #[] #[]] ++ lb) W fun e W' => (∃ v, e = .returned v) ∧ ((∃ xs, fin xs ∧ J xs W') ∨ Jx W'))
    (a₁ : ByteArray → Act)
    (hassign : ∀ (l : Nat) (x : ByteArray) (W : World) (K : Act → World → Prop), K (a₁ x) W →
      assign.wpIn (Fence.wide.inRound l) (n - 1 - 1) Try.prog (Exit.then K (fun _ _ _ => False)) { tmps := (#[pt].zip #[Value.string x]).foldl (fun t (p, v) => t.setIfInBounds p v) a.tmps, defers := [] } W)
    (hbody : ∀ (pre : List ByteArray) (x : ByteArray) (W : World), ok (pre ++ [x]) → I pre W → w.heap.size + 1 < W.heap.size → body.wpIn (Fence.wide.inRound (w.heap.size + 1)) (n - 1 - 1) Try.prog (roundLeft (w.heap.size + 1) w.heap.size Bp (I (pre ++ [x])) Ix W) (a₁ x) W)
    (hdone : ∀ (xs : List ByteArray) (W : World), fin xs → I xs W → W.heap[w.heap.size]? = some (.deferred (some [])) → Q .normal { a with defers := { target := .collected w.heap.size, args := #[] } :: a.defers } W)
    (hstop : ∀ (W : World), Ix W → W.heap[w.heap.size]? = some (.deferred (some [])) → Code.ret.wpIn Fence.wide n Try.prog Q { a with defers := { target := .collected w.heap.size, args := #[] } :: a.defers } W) :
    (Code.rangeFunc g #[pt] assign body).wpIn Fence.wide n Try.prog Q a w := by
  refine wpIn_rangeFunc (fun fn hfn => ?_)
  obtain ⟨rec, hrec⟩ : ∃ rec : LoopState → Option Code → Loop, rec = fun st pe => { state := st, pending := pe, fn, tmps := a.tmps, params := #[pt], assign, body, defers := w.heap.size } := ⟨_, rfl⟩
  obtain ⟨W1, hW1⟩ : ∃ W1, (w.alloc (.deferred (some []))).alloc (.loop (rec .ready none)) = W1 := ⟨_, rfl⟩
  have hL1 : W1.heap[w.heap.size + 1]? = some (.loop (rec .ready none)) := by
    rw [← hW1]
    have := World.alloc_heap_new (w.alloc (.deferred (some []))) (.loop (rec .ready none))
    rwa [World.size_alloc] at this
  have hD1 : W1.heap[w.heap.size]? = some (.deferred (some [])) := by
    rw [← hW1]
    exact (Below.heap_alloc _ _ _ (by simp)).trans (World.alloc_heap_new w _)
  have hbut1 : But w W1 (fun _ => False) := by
    rw [← hW1]
    exact (But.alloc w _ _).trans (But.alloc _ _ _)
  have hI1 : I [] W1 := hI _ _ _ h0 (hbut1.mono (fun _ h => h.elim))
  have hBp1 : W1.heap[Bp]? = w.heap[Bp]? := hbut1.2.2.2.2 Bp hBp id
  refine ⟨w.heap.size + 1, [{ target := .collected w.heap.size, args := #[] }], W1, { target := .fn (.func gf) lb, args := #[.func (.yield (w.heap.size + 1)) #[] #[]] }, W1, gf,
    #[.func (.yield (w.heap.size + 1)) #[] #[]] ++ lb, W1, ?_, ?_, fun _ _ => trivial, ?_, (fun h => by cases h), ?_⟩
  · rw [← hW1, hrec]
    exact run_enterLoop_outer _ _ _ _ _
  · simp only [resolve, hg]
    simp [go_sem]
  · simp [invoke, go_sem, eg]
  · refine (hit (fun pre W => I pre W ∧ W.heap[w.heap.size + 1]? = some (.loop (rec .ready none)) ∧ W.heap[w.heap.size]? = some (.deferred (some [])))
      (fun W => Ix W ∧ W.heap[w.heap.size + 1]? = some (.loop (rec .done (some .ret))) ∧ W.heap[w.heap.size]? = some (.deferred (some []))) W1 ?_ ?_ ?_ ⟨hI1, hL1, hD1⟩ hBp1).mono ?_
    · rintro pre A B ⟨hi, hl, hd⟩ hbt
      have hlt : w.heap.size + 1 < A.heap.size := (Array.getElem?_eq_some_iff.1 hl).1
      exact ⟨hI _ _ _ hi (hbt.mono (fun _ h => .inl h)), (hbt.2.2.2.2 _ hlt (by omega)).trans hl, (hbt.2.2.2.2 _ (by omega) (by omega)).trans hd⟩
    · rintro pre A ⟨hi, hl, hd⟩
      have hlt : w.heap.size + 1 < A.heap.size := (Array.getElem?_eq_some_iff.1 hl).1
      omega
    · rintro pre x W hok ⟨hi, hl, hd⟩
      have hlt : w.heap.size + 1 < W.heap.size := (Array.getElem?_eq_some_iff.1 hl).1
      have hy := run_yield (P := Try.prog) (args := #[Value.string x]) hl (by rw [hrec]; rfl)
      rw [hrec] at hy
      refine ⟨fn, _, assign, body, hy, roundIn_of_wpIn trivial ?_⟩
      refine hassign (w.heap.size + 1) x W _ ?_
      refine ⟨_, run_beginRound hl (by rw [hrec]), ?_⟩
      obtain ⟨W2, hW2⟩ : ∃ W2, W.putObj (w.heap.size + 1) (.loop { rec .ready none with state := .busy }) = W2 := ⟨_, rfl⟩
      rw [hW2]
      have hl2 : W2.heap[w.heap.size + 1]? = some (.loop { rec .ready none with state := .busy }) := by rw [← hW2]; exact World.putObj_heap_same hlt
      have hd2 : W2.heap[w.heap.size]? = some (.deferred (some [])) := by rw [← hW2]; exact (World.putObj_heap_other (by omega)).trans hd
      have hp2 : W2.heap[Bp]? = W.heap[Bp]? := by rw [← hW2]; exact World.putObj_heap_other (by omega)
      have hi2 : I pre W2 := by rw [← hW2]; exact hI _ _ _ hi ((but_put _ _ _).mono (fun _ h => .inr (.inr h)))
      have hlt2 : w.heap.size + 1 < W2.heap.size := (Array.getElem?_eq_some_iff.1 hl2).1
      have fin_ : ∀ (jump : Option Code) (W3 : World), W3.heap[w.heap.size + 1]? = W2.heap[w.heap.size + 1]? → W3.heap[w.heap.size]? = W2.heap[w.heap.size]? →
          (Instr.endRound (w.heap.size + 1) jump).run Try.prog W3 = .ok (.bool jump.isNone) (W3.putObj (w.heap.size + 1) (.loop (rec (if jump.isNone then .ready else .done) jump))) ∧
          (W3.putObj (w.heap.size + 1) (.loop (rec (if jump.isNone then .ready else .done) jump))).heap[w.heap.size + 1]? = some (.loop (rec (if jump.isNone then .ready else .done) jump)) ∧
          (W3.putObj (w.heap.size + 1) (.loop (rec (if jump.isNone then .ready else .done) jump))).heap[w.heap.size]? = some (.deferred (some [])) := fun jump W3 e1 e2 => by
        have hl3 := e1.trans hl2
        have := run_endRound (P := Try.prog) jump hl3
        rw [hrec] at this ⊢
        exact ⟨this, World.putObj_heap_same (Array.getElem?_eq_some_iff.1 hl3).1, (World.putObj_heap_other (by omega)).trans (e2.trans hd2)⟩
      refine wpIn_mono (hbody pre x W2 hok hi2 hlt2) ?_
      rintro e a3 W3 hp
      cases e with
      | normal =>
        obtain ⟨e1, e2, e3, hi3⟩ := hp
        obtain ⟨hr, hl4, hd4⟩ := fin_ none W3 e1 e2
        refine ⟨_, _, hr, .inl ⟨rfl, ⟨hI _ _ _ hi3 ((but_put _ _ _).mono (fun _ h => .inr (.inr h))), hl4, hd4⟩, ?_⟩⟩
        exact (World.putObj_heap_other (by omega)).trans (e3.trans hp2)
      | ret =>
        obtain ⟨e1, e2, hi3⟩ := hp
        obtain ⟨hr, hl4, hd4⟩ := fin_ (some .ret) W3 e1 e2
        exact ⟨_, _, hr, .inr ⟨rfl, hIx _ _ hi3 ((but_put _ _ _).mono (fun _ h => .inr (.inr h))), hl4, hd4⟩⟩
      | exit id => exact hp.elim
      | goto t => exact hp.elim
      | panic ch => exact hp.elim
      | outgrown => exact hp.elim
    · rintro e W2 ⟨⟨v, rfl⟩, (⟨xs, hf, hi, hl, hd⟩ | ⟨hi, hl, hd⟩)⟩
      · have hend := run_endLoop (P := Try.prog) hl (by rw [hrec]; simp)
        rw [hrec] at hend
        exact ⟨none, _, hend, hdone xs _ hf (hI _ _ _ hi ((but_put _ _ _).mono (fun _ h => .inr (.inr h)))) ((World.putObj_heap_other (by omega)).trans hd)⟩
      · have hend := run_endLoop (P := Try.prog) hl (by rw [hrec]; simp)
        rw [hrec] at hend
        exact ⟨some .ret, _, hend, hstop _ (hIx _ _ hi ((but_put _ _ _).mono (fun _ h => .inr (.inr h)))) ((World.putObj_heap_other (by omega)).trans hd)⟩
end Go.Proofs.Ytbelfaoolnijiaa.Nm
