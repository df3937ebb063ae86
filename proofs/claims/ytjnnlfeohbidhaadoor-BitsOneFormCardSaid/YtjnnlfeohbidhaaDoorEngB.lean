import Derived.Test.YtjnnlfeohbidhaaDoorEngA
import Derived.Laws.World
namespace Go.Proofs.YtjnnlfeohbidhaaDoor
open Go

/-! ### Memory in pieces -/

/-- A piece of memory: what a world holds at some blocks; it hangs on these blocks alone. -/
structure Asn where
  p : World → (Nat → Prop) → Prop
  lt : ∀ {w F}, p w F → ∀ b, F b → b < w.heap.size
  loc : ∀ {w w' F}, p w F → (∀ b, F b → w'.heap[b]? = w.heap[b]?) → p w' F

/-- Pieces that stand apart from one another, in the blocks of F. -/
def Star (w : World) : List Asn → (Nat → Prop) → Prop
  | [], _ => True
  | A :: l, F => ∃ F1 F2 : Nat → Prop, A.p w F1 ∧ Star w l F2 ∧ (∀ b, F1 b → ¬ F2 b) ∧ (∀ b, F1 b ∨ F2 b → F b)

theorem Star.mono {w : World} : ∀ {l : List Asn} {F G : Nat → Prop}, Star w l F → (∀ b, F b → G b) → Star w l G
  | [], _, _, _, _ => trivial
  | _ :: _, _, _, ⟨F1, F2, h1, h2, h3, h4⟩, h => ⟨F1, F2, h1, h2, h3, fun b hb => h b (h4 b hb)⟩

theorem Star.tight {w : World} : ∀ {l : List Asn} {F : Nat → Prop}, Star w l F → Star w l (fun b => F b ∧ b < w.heap.size)
  | [], _, _ => trivial
  | A :: l, F, ⟨F1, F2, h1, h2, h3, h4⟩ => ⟨F1, fun b => F2 b ∧ b < w.heap.size, h1, Star.tight h2, fun b hb hc => h3 b hb hc.1, fun b hb => by
      rcases hb with hb | hb
      · exact ⟨h4 b (.inl hb), A.lt h1 b hb⟩
      · exact ⟨h4 b (.inr hb.1), hb.2⟩⟩

theorem Star.loc {w w' : World} : ∀ {l : List Asn} {F : Nat → Prop}, Star w l F → (∀ b, F b → w'.heap[b]? = w.heap[b]?) → Star w' l F
  | [], _, _, _ => trivial
  | A :: _, _, ⟨F1, F2, h1, h2, h3, h4⟩, h => ⟨F1, F2, A.loc h1 (fun b hb => h b (h4 b (.inl hb))), Star.loc h2 (fun b hb => h b (h4 b (.inr hb))), h3, h4⟩

theorem Star.swap {w : World} {A B : Asn} {l : List Asn} {F : Nat → Prop} (h : Star w (A :: B :: l) F) : Star w (B :: A :: l) F := by
  obtain ⟨F1, F2, h1, ⟨G1, G2, g1, g2, g3, g4⟩, h3, h4⟩ := h
  exact ⟨G1, fun b => F1 b ∨ G2 b, g1, ⟨F1, G2, h1, g2, fun b hb hc => h3 b hb (g4 b (.inr hc)), fun _ h => h⟩,
    fun b hb hc => hc.elim (fun hc => h3 b hc (g4 b (.inl hb))) (fun hc => g3 b hb hc),
    fun b hb => h4 b (by
      rcases hb with hb | hb | hb
      · exact .inr (g4 b (.inl hb))
      · exact .inl hb
      · exact .inr (g4 b (.inr hb)))⟩

theorem Star.perm {w : World} {l l' : List Asn} (hp : l.Perm l') : ∀ {F : Nat → Prop}, Star w l F → Star w l' F := by
  induction hp with
  | nil => exact fun h => h
  | cons A _ ih => exact fun ⟨F1, F2, h1, h2, h3, h4⟩ => ⟨F1, F2, h1, ih h2, h3, h4⟩
  | swap A B l => exact fun h => h.swap
  | trans _ _ ih1 ih2 => exact fun h => ih2 (ih1 h)

theorem Star.split {w : World} : ∀ {l1 l2 : List Asn} {F : Nat → Prop}, Star w (l1 ++ l2) F → ∃ F1 F2, Star w l1 F1 ∧ Star w l2 F2 ∧ (∀ b, F1 b → ¬ F2 b) ∧ (∀ b, F1 b ∨ F2 b → F b)
  | [], l2, F, h => ⟨fun _ => False, F, trivial, h, fun _ h => h.elim, fun _ h => h.elim False.elim id⟩
  | A :: l1, l2, F, ⟨F1, F2, h1, h2, h3, h4⟩ => by
    obtain ⟨G1, G2, g1, g2, g3, g4⟩ := Star.split (l1 := l1) h2
    exact ⟨fun b => F1 b ∨ G1 b, G2, ⟨F1, G1, h1, g1, fun b hb hc => h3 b hb (g4 b (.inl hc)), fun _ h => h⟩, g2,
      fun b hb hc => hb.elim (fun hb => h3 b hb (g4 b (.inr hc))) (fun hb => g3 b hb hc),
      fun b hb => h4 b (by
        rcases hb with (hb | hb) | hb
        · exact .inl hb
        · exact .inr (g4 b (.inl hb))
        · exact .inr (g4 b (.inr hb)))⟩

theorem Star.join {w : World} : ∀ {l1 l2 : List Asn} {F1 F2 F : Nat → Prop}, Star w l1 F1 → Star w l2 F2 → (∀ b, F1 b → ¬ F2 b) → (∀ b, F1 b ∨ F2 b → F b) → Star w (l1 ++ l2) F
  | [], _, _, _, _, _, h2, _, h4 => h2.mono fun b hb => h4 b (.inr hb)
  | A :: l1, l2, F1, F2, F, ⟨G1, G2, g1, g2, g3, g4⟩, h2, h3, h4 => ⟨G1, fun b => G2 b ∨ F2 b, g1, Star.join g2 h2 (fun b hb hc => h3 b (g4 b (.inr hb)) hc) (fun _ h => h),
      fun b hb hc => hc.elim (fun hc => g3 b hb hc) (fun hc => h3 b (g4 b (.inl hb)) hc),
      fun b hb => h4 b (by
        rcases hb with hb | hb | hb
        · exact .inl (g4 b (.inl hb))
        · exact .inl (g4 b (.inr hb))
        · exact .inr hb)⟩

theorem Star.drop {w : World} {A : Asn} {l : List Asn} {F : Nat → Prop} (h : Star w (A :: l) F) : Star w l F :=
  let ⟨_, _, _, h2, _, h4⟩ := h; h2.mono fun b hb => h4 b (.inr hb)

/-- Outside the blocks of S nothing has turned. -/
structure But (w w' : World) (S : Nat → Prop) : Prop where
  os : w'.os = w.os
  tape : w'.tape = w.tape
  output : w'.output = w.output
  size : w.heap.size ≤ w'.heap.size
  blk : ∀ k, k < w.heap.size → ¬ S k → w'.heap[k]? = w.heap[k]?

theorem But.refl (w : World) (S : Nat → Prop) : But w w S := ⟨rfl, rfl, rfl, Nat.le_refl _, fun _ _ _ => rfl⟩

/-- The pieces L, in a world that comes of w0, where the blocks of F0 alone (and new ones) may have turned. -/
def St (w0 : World) (F0 : Nat → Prop) (L : List Asn) (w : World) : Prop := ∃ F, Star w L F ∧ But w0 w F0 ∧ ∀ b, F b → F0 b ∨ w0.heap.size ≤ b

theorem St.start {w : World} {F : Nat → Prop} {L : List Asn} (h : Star w L F) : St w F L w := ⟨F, h, .refl _ _, fun _ h => .inl h⟩

theorem St.perm {w0 : World} {F0 : Nat → Prop} {L L' : List Asn} {w : World} (hp : L.Perm L') (h : St w0 F0 L w) : St w0 F0 L' w :=
  let ⟨F, h1, h2⟩ := h; ⟨F, h1.perm hp, h2⟩

theorem St.drop {w0 : World} {F0 : Nat → Prop} {A : Asn} {L : List Asn} {w : World} (h : St w0 F0 (A :: L) w) : St w0 F0 L w :=
  let ⟨F, h1, h2⟩ := h; ⟨F, h1.drop, h2⟩

theorem St.emp {w0 : World} {F0 : Nat → Prop} {L : List Asn} {w : World} (h : St w0 F0 L w) : St w0 F0 [] w :=
  let ⟨F, _, h2⟩ := h; ⟨F, trivial, h2⟩
/-- What leaves all old blocks as they were leaves the pieces. -/
theorem St.same {w0 : World} {F0 : Nat → Prop} {L : List Asn} {w w' : World} (h : St w0 F0 L w) (hb : But w w' (fun _ => False)) : St w0 F0 L w' := by
  obtain ⟨F, h1, h2, h3⟩ := h
  refine ⟨fun b => F b ∧ b < w.heap.size, h1.tight.loc (fun b hF => hb.blk b hF.2 id), ⟨hb.os.trans h2.os, hb.tape.trans h2.tape, hb.output.trans h2.output, Nat.le_trans h2.size hb.size, fun k hk hn => (hb.blk k (Nat.lt_of_lt_of_le hk h2.size) id).trans (h2.blk k hk hn)⟩, fun b hF => h3 b hF.1⟩

theorem But.drew (w : World) (n : Nat) (S : Nat → Prop) : But w { w with drawn := n } S := ⟨rfl, rfl, rfl, Nat.le_refl _, fun _ _ _ => rfl⟩
theorem But.alloc (w : World) (o : Obj) (S : Nat → Prop) : But w (w.alloc o) S := ⟨rfl, rfl, rfl, by simp, fun k hk _ => by
  show (w.heap.push o)[k]? = _
  rw [Array.getElem?_push, if_neg (by omega)]⟩

/-- A call: it takes some pieces and hands others back; the rest stays. -/
theorem St.call {w0 : World} {F0 : Nat → Prop} {pre post rest : List Asn} {w w' : World} (h : St w0 F0 (pre ++ rest) w)
    (hc : ∀ F1, Star w pre F1 → St w F1 post w') : St w0 F0 (post ++ rest) w' := by
  obtain ⟨F, h1, h2, h3⟩ := h
  obtain ⟨F1, F2, s1, s2, s3, s4⟩ := h1.tight.split
  obtain ⟨G, g1, g2, g3⟩ := hc F1 s1
  have t2 := s2.tight
  refine ⟨fun b => G b ∨ (F2 b ∧ b < w.heap.size), g1.join (t2.loc fun b hb => g2.blk b hb.2 fun hb1 => s3 b hb1 hb.1) (fun b hb hc => ?_) (fun _ h => h), ⟨g2.os.trans h2.os, g2.tape.trans h2.tape, g2.output.trans h2.output, Nat.le_trans h2.size g2.size, fun k hk hn => ?_⟩, fun b hb => ?_⟩
  · rcases g3 b hb with h | h
    · exact s3 b h hc.1
    · exact absurd hc.2 (by omega)
  · refine (g2.blk k (Nat.lt_of_lt_of_le hk h2.size) fun hk1 => ?_).trans (h2.blk k hk hn)
    rcases h3 k (s4 k (.inl hk1)).1 with h | h
    · exact hn h
    · omega
  · rcases hb with hb | hb
    · rcases g3 b hb with h | h
      · exact h3 b (s4 b (.inl h)).1
      · exact .inr (Nat.le_trans h2.size h)
    · exact h3 b (s4 b (.inr hb.1)).1

/-! ### The kinds of pieces -/

/-- One block holds just this. -/
def Blk (b : Nat) (o : Obj) : Asn where
  p w F := (∀ x, F x ↔ x = b) ∧ w.heap[b]? = some o
  lt := fun ⟨h1, h2⟩ x hx => by rw [(h1 x).1 hx]; exact (Array.getElem?_eq_some_iff.1 h2).1
  loc := fun ⟨h1, h2⟩ h => ⟨h1, (h b ((h1 b).2 rfl)).trans h2⟩

/-- A fact. -/
def Fact (φ : Prop) : Asn where
  p _ F := φ ∧ ∀ b, ¬ F b
  lt := fun ⟨_, h⟩ b hb => (h b hb).elim
  loc := fun h _ => h

/-- There is an x such that .. -/
def Ex {X : Type} (f : X → Asn) : Asn where
  p w F := ∃ x, (f x).p w F
  lt := fun ⟨x, h⟩ => (f x).lt h
  loc := fun ⟨x, h⟩ hh => ⟨x, (f x).loc h hh⟩

/-- Several pieces as one. -/
def All (L : List Asn) : Asn where
  p w F := Star w L F ∧ ∀ b, F b → b < w.heap.size
  lt := fun h => h.2
  loc := fun {w w' F} ⟨h1, h2⟩ h => ⟨h1.loc h, fun b hb => by
    have hb' := h2 b hb
    have e := h b hb
    rw [Array.getElem?_eq_getElem hb'] at e
    exact (Array.getElem?_eq_some_iff.1 e).1⟩

/-- All blocks of the world w1 are as they were. -/
def Old (w1 : World) : Asn where
  p w F := (∀ x, F x ↔ x < w1.heap.size) ∧ w1.heap.size ≤ w.heap.size ∧ ∀ k, k < w1.heap.size → w.heap[k]? = w1.heap[k]?
  lt := fun ⟨h1, h2, _⟩ b hb => Nat.lt_of_lt_of_le ((h1 b).1 hb) h2
  loc := fun {w w' F} ⟨h1, h2, h3⟩ h => ⟨h1, by
    rcases Nat.eq_zero_or_pos w1.heap.size with e | e
    · omega
    · have h4 := h (w1.heap.size - 1) ((h1 _).2 (by omega))
      rw [h3 _ (by omega), Array.getElem?_eq_getElem (by omega : w1.heap.size - 1 < w1.heap.size)] at h4
      have := (Array.getElem?_eq_some_iff.1 h4).1
      omega, fun k hk => (h k ((h1 k).2 hk)).trans (h3 k hk)⟩

theorem Star.unex {w : World} {X : Type} {f : X → Asn} {l : List Asn} {F : Nat → Prop} : Star w (Ex f :: l) F ↔ ∃ x, Star w (f x :: l) F :=
  ⟨fun ⟨F1, F2, ⟨x, h⟩, r⟩ => ⟨x, F1, F2, h, r⟩, fun ⟨x, F1, F2, h, r⟩ => ⟨F1, F2, ⟨x, h⟩, r⟩⟩

theorem Star.unfact {w : World} {φ : Prop} {l : List Asn} {F : Nat → Prop} : Star w (Fact φ :: l) F ↔ φ ∧ Star w l F :=
  ⟨fun ⟨_, _, ⟨h, _⟩, r, _, h4⟩ => ⟨h, r.mono fun b hb => h4 b (.inr hb)⟩, fun ⟨h, r⟩ => ⟨fun _ => False, F, ⟨h, fun _ h => h⟩, r, fun _ h => h.elim, fun _ h => h.elim False.elim id⟩⟩

theorem Star.unall {w : World} {L l : List Asn} {F : Nat → Prop} : Star w (All L :: l) F ↔ Star w (L ++ l) F :=
  ⟨fun ⟨_, _, ⟨h, _⟩, r, h3, h4⟩ => h.join r h3 h4, fun h => by
    obtain ⟨F1, F2, s1, s2, s3, s4⟩ := h.split
    exact ⟨fun b => F1 b ∧ b < w.heap.size, F2, ⟨s1.tight, fun _ h => h.2⟩, s2, fun b hb hc => s3 b hb.1 hc, fun b hb => s4 b (hb.imp (·.1) id)⟩⟩

section
variable {w0 : World} {F0 : Nat → Prop} {L : List Asn} {w : World}
theorem St.ex {X : Type} {f : X → Asn} : St w0 F0 (Ex f :: L) w ↔ ∃ x, St w0 F0 (f x :: L) w :=
  ⟨fun ⟨F, h, r⟩ => let ⟨x, h'⟩ := Star.unex.1 h; ⟨x, F, h', r⟩, fun ⟨x, F, h, r⟩ => ⟨F, Star.unex.2 ⟨x, h⟩, r⟩⟩
theorem St.fact {φ : Prop} : St w0 F0 (Fact φ :: L) w ↔ φ ∧ St w0 F0 L w :=
  ⟨fun ⟨F, h, r⟩ => let ⟨p, h'⟩ := Star.unfact.1 h; ⟨p, F, h', r⟩, fun ⟨p, F, h, r⟩ => ⟨F, Star.unfact.2 ⟨p, h⟩, r⟩⟩
theorem St.all {M : List Asn} : St w0 F0 (All M :: L) w ↔ St w0 F0 (M ++ L) w :=
  ⟨fun ⟨F, h, r⟩ => ⟨F, Star.unall.1 h, r⟩, fun ⟨F, h, r⟩ => ⟨F, Star.unall.2 h, r⟩⟩

theorem St.blk {b : Nat} {o : Obj} (h : St w0 F0 (Blk b o :: L) w) : w.heap[b]? = some o :=
  let ⟨_, ⟨_, _, ⟨_, h⟩, _⟩, _⟩ := h; h

theorem St.old {w1 : World} (h : St w0 F0 (Old w1 :: L) w) : w1.heap.size ≤ w.heap.size ∧ ∀ k, k < w1.heap.size → w.heap[k]? = w1.heap[k]? :=
  let ⟨_, ⟨_, _, ⟨_, h⟩, _⟩, _⟩ := h; h

/-- One block is written. -/
theorem St.put {b : Nat} {o o' : Obj} {w' : World} (h : St w0 F0 (Blk b o :: L) w) (hb : But w w' (fun x => x = b)) (ho : w'.heap[b]? = some o') : St w0 F0 (Blk b o' :: L) w' := by
  have := St.call (pre := [Blk b o]) (post := [Blk b o']) (rest := L) (w' := w') h (fun F1 hF => ⟨fun x => x = b, ⟨fun x => x = b, fun _ => False, ⟨fun _ => Iff.rfl, ho⟩, trivial, fun _ _ h => h, fun _ h => h.elim id False.elim⟩, ⟨hb.os, hb.tape, hb.output, hb.size, fun k hk hn => hb.blk k hk fun e => hn (by
    obtain ⟨G1, _, ⟨g, _⟩, _, _, g4⟩ := hF
    exact g4 k (.inl ((g k).2 e)))⟩, fun x hx => by
    obtain ⟨G1, _, ⟨g, _⟩, _, _, g4⟩ := hF
    exact .inl (g4 x (.inl ((g x).2 hx)))⟩)
  simpa using this

/-- A new block. -/
theorem St.new (h : St w0 F0 L w) (o : Obj) : St w0 F0 (Blk w.heap.size o :: L) (w.alloc o) := by
  have := St.call (pre := []) (post := [Blk w.heap.size o]) (rest := L) (w' := w.alloc o) h (fun F1 _ => ⟨fun x => x = w.heap.size, ⟨fun x => x = w.heap.size, fun _ => False, ⟨fun _ => Iff.rfl, by
    show (w.heap.push o)[w.heap.size]? = some o
    simp⟩, trivial, fun _ _ h => h, fun _ h => h.elim id False.elim⟩, .alloc _ _ _, fun x hx => .inr (Nat.le_of_eq hx.symm)⟩)
  simpa using this

/-- A world with one more block, whatever it is called. -/
theorem St.new' {w' : World} {o : Obj} (h : St w0 F0 L w) (hb : But w w' (fun _ => False)) (ho : w'.heap[w.heap.size]? = some o) : St w0 F0 (Blk w.heap.size o :: L) w' := by
  have := St.call (pre := []) (post := [Blk w.heap.size o]) (rest := L) (w' := w') h (fun F1 _ => ⟨fun x => x = w.heap.size, ⟨fun x => x = w.heap.size, fun _ => False, ⟨fun _ => Iff.rfl, ho⟩, trivial, fun _ _ h => h, fun _ h => h.elim id False.elim⟩, ⟨hb.os, hb.tape, hb.output, hb.size, fun k hk _ => hb.blk k hk id⟩, fun x hx => .inr (Nat.le_of_eq hx.symm)⟩)
  simpa using this
end

/-- A at some place of L, L' the others. -/
inductive Pull : List Asn → Asn → List Asn → Prop
  | head {A : Asn} {l : List Asn} : Pull (A :: l) A l
  | tail {A B : Asn} {l l' : List Asn} (h : Pull l A l') : Pull (B :: l) A (B :: l')

theorem Pull.perm {L L' : List Asn} {A : Asn} (h : Pull L A L') : L.Perm (A :: L') := by
  induction h with
  | head => exact .refl _
  | tail _ ih => exact (ih.cons _).trans (.swap ..)

theorem St.pull {w0 : World} {F0 : Nat → Prop} {L L' : List Asn} {A : Asn} {w : World} (hp : Pull L A L') (h : St w0 F0 L w) : St w0 F0 (A :: L') w := h.perm hp.perm
/-- The pieces M, one by one, out of L; L' the others. -/
inductive Pulls : List Asn → List Asn → List Asn → Prop
  | nil {L : List Asn} : Pulls L [] L
  | cons {L L' L'' M : List Asn} {A : Asn} (h : Pull L A L') (t : Pulls L' M L'') : Pulls L (A :: M) L''

theorem Pulls.perm {L M L' : List Asn} (h : Pulls L M L') : L.Perm (M ++ L') := by
  induction h with
  | nil => exact .refl _
  | cons h _ ih => exact h.perm.trans (ih.cons _)
theorem St.pulls {w0 : World} {F0 : Nat → Prop} {L M L' : List Asn} {w : World} (hp : Pulls L M L') (h : St w0 F0 L w) : St w0 F0 (M ++ L') w := h.perm hp.perm
theorem St.left {w0 : World} {F0 : Nat → Prop} {L M : List Asn} {w : World} (h : St w0 F0 (L ++ M) w) : St w0 F0 L w :=
  let ⟨F, h1, h2, h3⟩ := h
  let ⟨_, _, s1, _, _, s4⟩ := h1.split
  ⟨F, s1.mono fun b hb => s4 b (.inl hb), h2, h3⟩
/-- The pieces M are among L. -/
inductive Sub : List Asn → List Asn → Prop
  | nil {L : List Asn} : Sub L []
  | cons {L L' M : List Asn} {A : Asn} (h : Pull L A L') (t : Sub L' M) : Sub L (A :: M)
theorem Sub.pulls {L M : List Asn} (h : Sub L M) : ∃ R, Pulls L M R := by
  induction h with
  | nil => exact ⟨_, .nil⟩
  | cons h _ ih => obtain ⟨R, hR⟩ := ih; exact ⟨R, .cons h hR⟩
theorem St.sub {w0 : World} {F0 : Nat → Prop} {L M : List Asn} {w : World} (hs : Sub L M) (h : St w0 F0 L w) : St w0 F0 M w := by
  obtain ⟨R, hR⟩ := hs.pulls
  exact (h.pulls hR).left
end Go.Proofs.YtjnnlfeohbidhaaDoor
