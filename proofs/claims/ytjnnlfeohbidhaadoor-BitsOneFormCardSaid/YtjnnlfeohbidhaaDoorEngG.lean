import Derived.Test.YtjnnlfeohbidhaaDoorEngF
import Derived.Laws.AppendOwn
namespace Go.Proofs.YtjnnlfeohbidhaaDoor
open Go

/-! ### Rows of like elements -/
/-- How an element lies in memory. -/
structure Elem (X : Type) where
  sz : Nat
  pos : 0 < sz
  enc : X → List Value
  len : ∀ x, (enc x).length = sz
  one : ∀ x, ∀ v ∈ enc x, v.oneCell' = true

variable {X : Type}

/-- Block g is an array with room for cap elements, of which the first are xs. -/
def Row (E : Elem X) (T g cap : Nat) (xs : List X) : Asn where
  p w F := (∀ x, F x ↔ x = g) ∧ ∃ cur, w.heap[g]? = some (.cells cur T (0, 0)) ∧ xs.length ≤ cap ∧ cap ≤ maxLen ∧ cur.size = cap * E.sz ∧ ∀ i x, xs[i]? = some x → ∀ j v, (E.enc x)[j]? = some v → cur[i * E.sz + j]? = some v
  lt := fun ⟨h1, _, h2, _⟩ x hx => by rw [(h1 x).1 hx]; exact (Array.getElem?_eq_some_iff.1 h2).1
  loc := fun ⟨h1, cur, h2, r⟩ h => ⟨h1, cur, (h g ((h1 g).2 rfl)).trans h2, r⟩

/-- A slice value, nil or an array of its own, that holds just xs. -/
def RowV (E : Elem X) (T : Nat) (v : Value) (xs : List X) : Asn where
  p w F := (v = .slice none 0 0 ∧ xs = [] ∧ ∀ b, ¬ F b) ∨ ∃ g cap, v = .slice (some ⟨g, 0, none⟩) xs.length cap ∧ (Row E T g cap xs).p w F
  lt := fun h b hb => by
    rcases h with ⟨_, _, h⟩ | ⟨g, cap, _, h⟩
    · exact (h b hb).elim
    · exact (Row E T g cap _).lt h b hb
  loc := fun h hh => by
    rcases h with h | ⟨g, cap, h1, h⟩
    · exact .inl h
    · exact .inr ⟨g, cap, h1, (Row E T g cap _).loc h hh⟩

section
variable {w0 : World} {F0 : Nat → Prop} {L : List Asn} {w : World} {E : Elem X} {T : Nat} {xs : List X}

theorem Star.rowV {v : Value} {F : Nat → Prop} : Star w (RowV E T v xs :: L) F ↔ (v = .slice none 0 0 ∧ xs = [] ∧ Star w L F) ∨ ∃ g cap, v = .slice (some ⟨g, 0, none⟩) xs.length cap ∧ Star w (Row E T g cap xs :: L) F := by
  constructor
  · rintro ⟨F1, F2, (⟨h1, h2, h3⟩ | ⟨g, cap, h1, h2⟩), r, s3, s4⟩
    · exact .inl ⟨h1, h2, r.mono fun b hb => s4 b (.inr hb)⟩
    · exact .inr ⟨g, cap, h1, F1, F2, h2, r, s3, s4⟩
  · rintro (⟨h1, h2, h3⟩ | ⟨g, cap, h1, F1, F2, h2, r, s3, s4⟩)
    · exact ⟨fun _ => False, F, .inl ⟨h1, h2, fun _ h => h⟩, h3, fun _ h => h.elim, fun _ h => h.elim False.elim id⟩
    · exact ⟨F1, F2, .inr ⟨g, cap, h1, h2⟩, r, s3, s4⟩
theorem St.rowV {v : Value} : St w0 F0 (RowV E T v xs :: L) w ↔ (v = .slice none 0 0 ∧ xs = [] ∧ St w0 F0 L w) ∨ ∃ g cap, v = .slice (some ⟨g, 0, none⟩) xs.length cap ∧ St w0 F0 (Row E T g cap xs :: L) w := by
  constructor
  · rintro ⟨F, h, r⟩
    rcases Star.rowV.1 h with ⟨h1, h2, h3⟩ | ⟨g, cap, h1, h2⟩
    · exact .inl ⟨h1, h2, F, h3, r⟩
    · exact .inr ⟨g, cap, h1, F, h2, r⟩
  · rintro (⟨h1, h2, F, h3, r⟩ | ⟨g, cap, h1, F, h2, r⟩)
    · exact ⟨F, Star.rowV.2 (.inl ⟨h1, h2, h3⟩), r⟩
    · exact ⟨F, Star.rowV.2 (.inr ⟨g, cap, h1, h2⟩), r⟩
theorem St.rowV_nil (h : St w0 F0 L w) : St w0 F0 (RowV E T (.slice none 0 0) [] :: L) w := St.rowV.2 (.inl ⟨rfl, rfl, h⟩)
theorem St.rowV_mk {g cap : Nat} (h : St w0 F0 (Row E T g cap xs :: L) w) : St w0 F0 (RowV E T (.slice (some ⟨g, 0, none⟩) xs.length cap) xs :: L) w := St.rowV.2 (.inr ⟨g, cap, rfl, h⟩)
theorem St.row_le {g cap : Nat} (h : St w0 F0 (Row E T g cap xs :: L) w) : xs.length ≤ cap ∧ cap ≤ maxLen :=
  let ⟨_, ⟨_, _, ⟨_, _, _, h1, h2, _⟩, _⟩, _⟩ := h; ⟨h1, h2⟩
/-- A row seen as a shorter one. -/
theorem St.row_take {g cap : Nat} (m : Nat) (h : St w0 F0 (Row E T g cap xs :: L) w) : St w0 F0 (Row E T g cap (xs.take m) :: L) w := by
  obtain ⟨F, ⟨F1, F2, ⟨h1, cur, h2, h3, h4, h5, h6⟩, r⟩, rr⟩ := h
  refine ⟨F, ⟨F1, F2, ⟨h1, cur, h2, by rw [List.length_take]; omega, h4, h5, fun i x hx => h6 i x ?_⟩, r⟩, rr⟩
  rw [List.getElem?_take] at hx
  split at hx
  · exact hx
  · cases hx
end

theorem row_lt {sz cap i j : Nat} (hi : i < cap) (hj : j < sz) : i * sz + j < cap * sz := by
  have : i * sz + sz ≤ cap * sz := by rw [← Nat.succ_mul]; exact Nat.mul_le_mul_right _ hi
  omega
theorem row_inj {sz i j i' j' : Nat} (hj : j < sz) (hj' : j' < sz) (h : i * sz + j = i' * sz + j') : i = i' ∧ j = j' := by
  have key : ∀ a b c d : Nat, c < sz → d < sz → a * sz + c = b * sz + d → a ≤ b := by
    intro a b c d hc hd he
    rcases Nat.lt_or_ge b a with hlt | hge
    · have : b * sz + sz ≤ a * sz := by rw [← Nat.succ_mul]; exact Nat.mul_le_mul_right _ hlt
      omega
    · exact hge
  have e : i = i' := Nat.le_antisymm (key _ _ _ _ hj hj' h) (key _ _ _ _ hj' hj h.symm)
  subst e
  exact ⟨rfl, by omega⟩

section
variable {P : Program} {n : Nat} {ds : List Deferred} {ops : Array Oper} {ev wk : Nat → Bool} {K : Env → (World → Prop) → Prop} {r : List Oper} {o : Oper} {k : Nat} {e : Env} {w0 : World} {F0 : Nat → Prop} {L L' : List Asn} {E : Elem X} {T g cap : Nat} {xs : List X}

/-- The place of an element of a slice that begins with its array. -/
theorem h_rowAddr {t el b len sz : Nat} {cp : Nat} {x y : Operand} {kk : IntKind} {i : Int} (ho : o.op = .indexAddr t x y) (hx : e.op x = some (.slice (some ⟨b, 0, none⟩) len cp)) (hy : e.op y = some (.int kk i)) (hu : P.underlying t = some (.slice el)) (hs : SizeOf P el sz)
    (h0 : 0 ≤ i) (h1 : i < len) {dd : Nat} (hdst : o.dst = some dd) (hd : okD n (some dd) = true) (h : HX P n ds ops ev wk K r (k + 1) ((dd, .pointer (some ⟨b, i.toNat * sz, none⟩)) :: e) (St w0 F0 L)) : HX1 P n ds ops ev wk K o r k e (St w0 F0 L) :=
  h_indexAddr ho hx hy hu hs h0 h1 hdst hd (by rw [Nat.zero_add]; exact h)

theorem h_rowLoad {t i j : Nat} {x : Operand} {d : TypeDesc} {y : X} {v : Value} (ho : o.op = .load t x) (hp : Pull L (Row E T g cap xs) L') (hx : e.op x = some (.pointer (some ⟨g, i * E.sz + j, none⟩))) (hu : P.underlying t = some d) (hna : aggD d = false)
    (hi : xs[i]? = some y) (hv : nth (E.enc y) j = some v) {dd : Nat} (hdst : o.dst = some dd) (hd : okD n (some dd) = true) (h : HX P n ds ops ev wk K r (k + 1) ((dd, v) :: e) (St w0 F0 L)) : HX1 P n ds ops ev wk K o r k e (St w0 F0 L) :=
  hx1_read (by rw [ho]; rfl) (by rw [ho]; rfl) hdst hd (fun a w ha hC => by
    obtain ⟨F, _, cur, hb, _, _, _, hc⟩ := hC.get hp
    simp [execOp, ho, ha.eval hx, run_load1 hu hna ((blk_cell hb _).trans (hc i y hi j v (by rw [← nth_eq]; exact hv)))]) h

theorem h_rowLoad0 {t j : Nat} {x : Operand} {d : TypeDesc} {y : X} {v : Value} (ho : o.op = .load t x) (hp : Pull L (Row E T g cap xs) L') (hx : e.op x = some (.pointer (some ⟨g, j, none⟩))) (hu : P.underlying t = some d) (hna : aggD d = false)
    (hi : xs[0]? = some y) (hv : nth (E.enc y) j = some v) {dd : Nat} (hdst : o.dst = some dd) (hd : okD n (some dd) = true) (h : HX P n ds ops ev wk K r (k + 1) ((dd, v) :: e) (St w0 F0 L)) : HX1 P n ds ops ev wk K o r k e (St w0 F0 L) :=
  h_rowLoad (i := 0) ho hp (by rw [Nat.zero_mul, Nat.zero_add]; exact hx) hu hna hi hv hdst hd h
theorem h_rowLoadN {t i : Nat} {x : Operand} {d : TypeDesc} {y : X} {cs : Array Value} (ho : o.op = .load t x) (hp : Pull L (Row E T g cap xs) L') (hx : e.op x = some (.pointer (some ⟨g, i * E.sz, none⟩))) (hu : P.underlying t = some d) (hna : aggD d = true) (hs : SizeOf P t E.sz)
    (hi : xs[i]? = some y) (hcs : (E.enc y).toArray = cs) {dd : Nat} (hdst : o.dst = some dd) (hd : okD n (some dd) = true) (h : HX P n ds ops ev wk K r (k + 1) ((dd, .agg cs) :: e) (St w0 F0 L)) : HX1 P n ds ops ev wk K o r k e (St w0 F0 L) :=
  hx1_read (by rw [ho]; rfl) (by rw [ho]; rfl) hdst hd (fun a w ha hC => by
    obtain ⟨F, _, cur, hb, _, _, _, hcell⟩ := hC.get hp
    have hc : ∀ j v, (E.enc y)[j]? = some v → w.cell? ((⟨g, i * E.sz, none⟩ : Addr).add j) = some v := fun j v hj => by
      have e1 : (⟨g, i * E.sz, none⟩ : Addr).add j = ⟨g, i * E.sz + j, none⟩ := by
        unfold Addr.add
        split
        · rename_i h0; rw [h0]; rfl
        · rfl
      rw [e1, blk_cell hb]
      exact hcell i y hi j v hj
    subst hcs
    simp [execOp, ho, ha.eval hx, run_loadN hu hna hs (E.len y) hc]) h

theorem Row.put {w w' : World} {F : Nat → Prop} {i s off : Nat} {cur : Array Value} {vs : List Value} {y z : X} (h : (Row E T g cap xs).p w F) (hb : w.heap[g]? = some (.cells cur T (0, 0))) (hh : w'.heap[g]? = some (.cells (setMany cur (i * E.sz + off) vs) T (0, 0)))
    (hi : xs[i]? = some y) (hs : vs.length = s) (ho : off + s ≤ E.sz) (hz : E.enc z = (E.enc y).take off ++ vs ++ (E.enc y).drop (off + s)) : (Row E T g cap (xs.set i z)).p w' F := by
  obtain ⟨h1, cur', h2, h3, h4, h5, h6⟩ := h
  rw [hb] at h2
  cases h2
  have hil : i < xs.length := (List.getElem?_eq_some_iff.1 hi).1
  have hic : i < cap := by omega
  have hpos := E.pos
  have hfit : i * E.sz + off + vs.length ≤ cur.size := by
    rw [h5]
    have : i * E.sz + E.sz ≤ cap * E.sz := by rw [← Nat.succ_mul]; exact Nat.mul_le_mul_right _ hic
    omega
  refine ⟨h1, _, hh, by simpa using h3, h4, by rw [setMany_size, h5], fun i' x' hx' j v hj => ?_⟩
  rw [setMany_get _ _ _ _ hfit]
  have hjs : j < E.sz := by
    have := (List.getElem?_eq_some_iff.1 hj).1
    rwa [E.len] at this
  by_cases hii : i' = i
  · subst hii
    rw [List.getElem?_set_self hil] at hx'
    cases hx'
    rw [hz] at hj
    have hly := E.len y
    by_cases hr : off ≤ j ∧ j < off + s
    · rw [if_pos (by omega), show i' * E.sz + j - (i' * E.sz + off) = j - off by omega]
      rw [List.append_assoc, List.getElem?_append_right (by simp; omega)] at hj
      rw [List.getElem?_append_left (by simp [hly]; omega)] at hj
      simpa [hly, Nat.min_eq_left (by omega : off ≤ E.sz)] using hj
    · rw [if_neg (by omega)]
      refine h6 i' y hi j v ?_
      by_cases hlo : j < off
      · rw [List.append_assoc, List.getElem?_append_left (by simp [hly]; omega)] at hj
        rwa [List.getElem?_take, if_pos hlo] at hj
      · rw [List.getElem?_append_right (by simp [hly]; omega)] at hj
        rw [List.getElem?_drop] at hj
        rw [← hj]
        congr 1
        simp [hly]
        omega
  · rw [if_neg (fun hr => hii (row_inj (sz := E.sz) (i := i') (j := j) (i' := i) (j' := i * E.sz + off + (i' * E.sz + j - (i * E.sz + off)) - i * E.sz) hjs (by omega) (by omega)).1)]
    rw [List.getElem?_set_ne (Ne.symm hii)] at hx'
    exact h6 i' x' hx' j v hj

/-- A store into an element: 's' cells from the place 'off' in it on. -/
theorem h_rowStore {t i off s : Nat} {x y : Operand} {v : Value} {vs : List Value} {q z : X} (hev : ev k = true) (hwk : wk k = false) (ho : o.op = .store t x y) (hp : Pull L (Row E T g cap xs) L') (hdst : o.dst = none) (hx : e.op x = some (.pointer (some ⟨g, i * E.sz + off, none⟩))) (hy : e.op y = some v) (hs : SizeOf P t s)
    (hi : xs[i]? = some q) (hl : v.cells.toList = vs) (hls : vs.length = s) (hfit : off + s ≤ E.sz) (hz : E.enc z = (E.enc q).take off ++ vs ++ (E.enc q).drop (off + s))
    (h : HX P n ds ops ev wk K r (k + 1) e (St w0 F0 (Row E T g cap (xs.set i z) :: L'))) : HX1 P n ds ops ev wk K o r k e (St w0 F0 L) :=
  hx1_event hev (fun a w ha hC => by
    have hC' := hC.perm hp.perm
    obtain ⟨F, ⟨F1, F2, hrow, r2, s3, s4⟩, rr⟩ := hC'
    obtain ⟨h1, cur, hb, h3, h4, h5, h6⟩ := id hrow
    subst hl
    have hil : i < xs.length := (List.getElem?_eq_some_iff.1 hi).1
    have hfit2 : i * E.sz + off + s ≤ cur.size := by
      rw [h5]
      have : i * E.sz + E.sz ≤ cap * E.sz := by rw [← Nat.succ_mul]; exact Nat.mul_le_mul_right _ (by omega)
      omega
    have h1c : ∀ u ∈ v.cells.toList, u.oneCell' = true := fun u hu => E.one z u (by rw [hz]; simp [hu])
    obtain ⟨w', hrun, hbut, hh⟩ := run_storeAt (P := P) (v := v) (off := i * E.sz + off) hb hs (by simpa using hls) hfit2 h1c
    unfold Oper.wp
    have : (execOp a.eval o).run P w = .ok .skip w' := by simp [execOp, ho, ha.eval hx, ha.eval hy, hrun]
    rw [this]
    have hC2 : St w0 F0 (Row E T g cap (xs.set i z) :: L') w' := by
      have := St.call (pre := [Row E T g cap xs]) (post := [Row E T g cap (xs.set i z)]) (rest := L') (w' := w') (w := w) ⟨F, ⟨F1, F2, hrow, r2, s3, s4⟩, rr⟩ (fun G hG => by
        obtain ⟨G1, G2, g1, _, _, g4⟩ := hG
        have hg1 := g1.1
        refine ⟨fun x => x = g, ⟨fun x => x = g, fun _ => False, ?_, trivial, fun _ _ h => h, fun _ h => h.elim id False.elim⟩, ⟨hbut.os, hbut.tape, hbut.output, hbut.size, fun j hj hn => hbut.blk j hj fun e => hn (g4 j (.inl ((hg1 j).2 e)))⟩, fun x hx => .inl (g4 x (.inl ((hg1 x).2 hx)))⟩
        exact Row.put (F := fun x => x = g) (s := s) ⟨fun _ => Iff.rfl, cur, hb, h3, h4, h5, h6⟩ hb hh hi hls hfit hz)
      simpa using this
    refine ⟨_, e, hC2, (fun h => by rw [hwk] at h; cases h), ?_, h⟩
    rw [hdst]
    exact ha)

/-- A whole element is written. -/
theorem h_rowStoreN {t i : Nat} {x y : Operand} {v : Value} {vs : List Value} {q : X} (z : X) (hev : ev k = true) (hwk : wk k = false) (ho : o.op = .store t x y) (hp : Pull L (Row E T g cap xs) L') (hdst : o.dst = none) (hx : e.op x = some (.pointer (some ⟨g, i * E.sz, none⟩))) (hy : e.op y = some v) (hs : SizeOf P t E.sz)
    (hi : xs[i]? = some q) (hl : v.cells.toList = vs) (hz : E.enc z = vs)
    (h : HX P n ds ops ev wk K r (k + 1) e (St w0 F0 (Row E T g cap (xs.set i z) :: L'))) : HX1 P n ds ops ev wk K o r k e (St w0 F0 L) :=
  h_rowStore (off := 0) (z := z) (q := q) (vs := vs) hev hwk ho hp hdst (by rw [Nat.add_zero]; exact hx) hy hs hi hl (by rw [← hz, E.len]) (by omega) (by
    rw [hz, Nat.zero_add, List.drop_of_length_le (by rw [E.len]; exact Nat.le_refl _)]
    simp) h

/-- A slice that may be nil is looked at. -/
theorem hc_rowV {c : Code} {Q : Exit → Act → World → Prop} {v : Value} (hp : Pull L (RowV E T v xs) L') (h1 : v = .slice none 0 0 → xs = [] → HC P n ds c Q e (St w0 F0 L')) (h2 : ∀ g cap, v = .slice (some ⟨g, 0, none⟩) xs.length cap → HC P n ds c Q e (St w0 F0 (Row E T g cap xs :: L'))) : HC P n ds c Q e (St w0 F0 L) := ⟨fun a w ha hC => by
  rcases St.rowV.1 (hC.perm hp.perm) with ⟨e1, e2, h⟩ | ⟨g, cap, e1, h⟩
  · exact (h1 e1 e2).out a w ha h
  · exact (h2 g cap e1).out a w ha h⟩
theorem one_row (E : Elem X) (z : X) : ∀ (i : Nat) (q : X), [z][i]? = some q → ∀ (j : Nat) (u : Value), (E.enc q)[j]? = some u → (E.enc z).toArray[i * E.sz + j]? = some u := by
  intro i q hq j u hj
  match i, hq with
  | 0, hq =>
    cases hq
    rw [Nat.zero_mul, Nat.zero_add]
    simpa using hj

/-! ### append -/
theorem RowV.owns {w : World} {F : Nat → Prop} {v : Value} (h : (RowV E T v xs).p w F) : ∃ fl : List Value, w.ownsRow 0 T E.sz v xs.length fl ∧ (∀ i x, xs[i]? = some x → ∀ j u, (E.enc x)[j]? = some u → fl[i * E.sz + j]? = some u) ∧ (∀ b, v.ownBlock = some b ↔ F b) := by
  rcases h with ⟨rfl, rfl, hF⟩ | ⟨g, cap, rfl, h1, cur, h2, h3, h4, h5, h6⟩
  · exact ⟨[], World.ownsRow_nil _ _ _ _, by simp, fun b => ⟨(fun h => by cases h), fun h => (hF b h).elim⟩⟩
  · have hle : xs.length * E.sz ≤ cur.size := by rw [h5]; exact Nat.mul_le_mul_right _ h3
    refine ⟨cur.toList.take (xs.length * E.sz), ⟨by simpa using Nat.min_eq_left hle, .inr ⟨g, cap, cur, rfl, Nat.zero_le _, h2, h3, h4, h5, rfl⟩⟩, fun i x hx j u hj => ?_, fun b => ⟨fun h => (h1 b).2 (Option.some.inj h).symm, fun h => congrArg some ((h1 b).1 h).symm⟩⟩
    have hi : i < xs.length := (List.getElem?_eq_some_iff.1 hx).1
    have hjs : j < E.sz := by
      have := (List.getElem?_eq_some_iff.1 hj).1
      rwa [E.len] at this
    rw [List.getElem?_take, if_pos (row_lt hi hjs)]
    simpa using h6 i x hx j u hj

theorem RowV.of_owns {w : World} {v : Value} {fl : List Value} (h : w.ownsRow 0 T E.sz v xs.length fl) (hf : ∀ i x, xs[i]? = some x → ∀ j u, (E.enc x)[j]? = some u → fl[i * E.sz + j]? = some u) : (RowV E T v xs).p w (fun b => v.ownBlock = some b) := by
  obtain ⟨hl, (⟨rfl, h0⟩ | ⟨g, cap, cur, rfl, _, h2, h3, h4, h5, h6⟩)⟩ := h
  · exact .inl ⟨rfl, List.eq_nil_of_length_eq_zero h0, fun b hb => by cases hb⟩
  · refine .inr ⟨g, cap, rfl, fun x => ⟨fun h => (Option.some.inj h).symm, fun h => congrArg some h.symm⟩, cur, h2, h3, h4, h5, fun i x hx j u hj => ?_⟩
    have h7 := hf i x hx j u hj
    rw [← h6, List.getElem?_take] at h7
    split at h7
    · simpa using h7
    · cases h7

/-- Where the longer slice lies: where it lay, or in a new block. -/
theorem append_block {P : Program} {w w' : World} {t ty : TypeId} {i : TypeInfo} {z : Value} {size bytes : Nat} (ht : P.underlying t = some (.slice T)) (hi : P.info? T = some i) (hz : i.zero = some z) (hsize : i.size = size) (hby : i.bytes = bytes) (hzs : z.cells.size = size) (hsz : 0 < size)
    {v v' : Value} {n : Nat} {fl : List Value} (hown : w.ownsRow 0 T size v n fl) {a : Addr} {m c : Nat} {news : List Value} (hl : news.length = m * size) (hnews : ∀ j u, news[j]? = some u → w.cell? (a.add j) = some u) (h1 : ∀ u ∈ news, u.oneCell' = true)
    (h63 : n + m ≤ maxLen) (hbytes : (n + m) * bytes ≤ 140737488355328) (hrun : (Builtin.append_ #[t, t] ty #[v, .slice (some a) m c]).run P w = .ok v' w') : ∀ x, v'.ownBlock = some x → v.ownBlock = some x ∨ w.heap.size ≤ x := by
  intro x hx
  obtain ⟨hfl, (⟨rfl, rfl⟩ | ⟨g, cap, cur, rfl, _, h2, h3, h4, h5, h6⟩)⟩ := id hown
  · have hx0 : fl = [] := List.eq_nil_of_length_eq_zero (by simpa using hfl)
    subst hx0
    obtain ⟨v2, w2, hrun2, hown2, _⟩ := run_append_own (P := P) (w := w) w.heap.size t ty T i z size bytes ht hi hz hsize hby hzs hsz (.slice none 0 0) 0 [] (World.ownsRow_nil _ _ _ _) a m c news hl hnews h1 h63 hbytes (Nat.le_refl _)
    rw [hrun] at hrun2
    injection hrun2 with e1 e2
    subst e1 e2
    exact .inr (hown2.lt x hx).1
  · subst hsize
    subst hby
    by_cases hroom : n + m ≤ cap
    · have hfit : n * i.size + news.length ≤ cur.size := by rw [hl, h5, ← Nat.add_mul]; exact Nat.mul_le_mul_right _ hroom
      have hr := run_append_room (P := P) w t ty T i ht hi g n cap cur h2 a m c news hl hnews h1 hroom hfit
      rw [hrun] at hr
      injection hr with e1 e2
      subst e1
      exact .inl hx
    · have holds : ∀ j u, fl[j]? = some u → w.cell? ((⟨g, 0, none⟩ : Addr).add j) = some u := hown.cells (g := g) rfl
      have hr := run_append_grow (P := P) w t ty T i z ht hi hz ⟨g, 0, none⟩ n cap fl hfl holds a m c news hl hnews (by omega) (by simp only [maxLen] at h63; omega) (growslice_fits (by omega) hbytes)
      rw [hrun] at hr
      injection hr with e1 e2
      subst e1
      exact .inr (by cases hx; exact Nat.le_refl _)

/-- append(s, ..) with elements ys that lie in a block of their own: what comes of it. -/
theorem append_core {x y : Operand} {t b m c by_ : Nat} {zv : Value} {v : Value} {cs : Array Value} {bt : Nat} {fz : Nat × Nat} {ys : List X}
    (ho : o.op = .call { callee := .builtin .append, args := #[x, y], argTypes := #[t, t] }) (hx : e.op x = some v) (hy : e.op y = some (.slice (some ⟨b, 0, none⟩) m c)) (hu : P.underlying t = some (.slice T)) (hi : ∃ i, P.info? T = some i ∧ i.size = E.sz ∧ i.bytes = by_ ∧ i.zero = some zv) (hzv : zv.cells.size = E.sz)
    (hp : Pulls L [RowV E T v xs, Blk b (.cells cs bt fz)] L') (hm : ys.length = m) (hcs : ∀ i q, ys[i]? = some q → ∀ j u, (E.enc q)[j]? = some u → cs[i * E.sz + j]? = some u)
    (h63 : xs.length + m ≤ maxLen) (hbytes : (xs.length + m) * by_ ≤ 140737488355328) {a : Act} {w : World} (ha : Has n ds a e) (hC : St w0 F0 L w) :
    ∃ v' w', (execOp a.eval o).run P w = .ok (.value v') w' ∧ St w0 F0 (RowV E T v' (xs ++ ys) :: Blk b (.cells cs bt fz) :: L') w' ∧ (v' = .slice none 0 0 ↔ v = .slice none 0 0 ∧ m = 0) := by
  have hC' : St w0 F0 ([RowV E T v xs, Blk b (.cells cs bt fz)] ++ L') w := hC.perm hp.perm
  obtain ⟨i, i1, i2, i3, i4⟩ := hi
  obtain ⟨F, ⟨F1, F2, hrow, ⟨G1, G2, ⟨hG1, hblk⟩, r2, t3, t4⟩, s3, s4⟩, rr⟩ := id hC'
  obtain ⟨fl, hown, hfl, hF1⟩ := RowV.owns hrow
  have hyl : ∀ (l : List X), (l.flatMap E.enc).length = l.length * E.sz := by
    intro l
    induction l with
    | nil => simp
    | cons q l ih => simp [ih, E.len, Nat.add_mul, Nat.add_comm]
  have hflat : ∀ (l : List X) (j : Nat) (u : Value), (l.flatMap E.enc)[j]? = some u → ∃ i q j', l[i]? = some q ∧ (E.enc q)[j']? = some u ∧ j = i * E.sz + j' := by
    intro l
    induction l with
    | nil => intro j u hj; simp at hj
    | cons q l ih =>
      intro j u hj
      rw [List.flatMap_cons] at hj
      rcases Nat.lt_or_ge j (E.enc q).length with hlt | hge
      · rw [List.getElem?_append_left hlt] at hj
        exact ⟨0, q, j, rfl, hj, by simp⟩
      · rw [List.getElem?_append_right hge] at hj
        obtain ⟨i, q', j', h1, h2, h3⟩ := ih _ _ hj
        refine ⟨i + 1, q', j', h1, h2, ?_⟩
        rw [E.len] at h3 hge
        rw [Nat.add_mul]
        omega
  have hflat2 : ∀ (l : List X) (i : Nat) (q : X), l[i]? = some q → ∀ j u, (E.enc q)[j]? = some u → (l.flatMap E.enc)[i * E.sz + j]? = some u := by
    intro l
    induction l with
    | nil => intro i q hq; simp at hq
    | cons q0 l ih =>
      intro i q hq j u hj
      rw [List.flatMap_cons]
      cases i with
      | zero =>
        obtain rfl : q0 = q := by simpa using hq
        have := (List.getElem?_eq_some_iff.1 hj).1
        rw [Nat.zero_mul, Nat.zero_add, List.getElem?_append_left this]
        exact hj
      | succ i =>
        have h1 := ih i q (by simpa using hq) j u hj
        rw [List.getElem?_append_right (by rw [E.len, Nat.add_mul]; omega), E.len, show (i + 1) * E.sz + j - E.sz = i * E.sz + j by rw [Nat.add_mul]; omega]
        exact h1
  have hnl : (ys.flatMap E.enc).length = m * E.sz := by rw [hyl, hm]
  have hnc : ∀ j u, (ys.flatMap E.enc)[j]? = some u → w.cell? ((⟨b, 0, none⟩ : Addr).add j) = some u := (fun j u hj => by
      obtain ⟨i, q, j', h1, h2, rfl⟩ := hflat _ _ _ hj
      have e1 : (⟨b, 0, none⟩ : Addr).add (i * E.sz + j') = ⟨b, i * E.sz + j', none⟩ := by
        unfold Addr.add
        split
        · rename_i h0; rw [h0]
        · simp
      rw [e1, blk_cell hblk]
      exact hcs i q h1 j' u h2)
  have h1c : ∀ u ∈ ys.flatMap E.enc, u.oneCell' = true := (fun u hu => by
      obtain ⟨q, _, hq⟩ := List.mem_flatMap.1 hu
      exact E.one q u hq)
  obtain ⟨v', w', hrun, hown', hgr, hnil⟩ := run_append_own (P := P) (w := w) 0 t o.type T i zv E.sz by_ hu i1 i4 i2 i3 hzv E.pos v xs.length fl hown ⟨b, 0, none⟩ m c (ys.flatMap E.enc) hnl hnc h1c h63 hbytes (Nat.zero_le _)
  have : (execOp a.eval o).run P w = .ok (.value v') w' := by
    simp [execOp, ho, resolve, invoke, builtin, ha.eval hx, ha.eval hy, hrun]
  refine ⟨v', w', this, ?_, hnil⟩
  have hC3 : St w0 F0 ([RowV E T v xs] ++ (Blk b (.cells cs bt fz) :: L')) w := hC'
  refine St.call (pre := [RowV E T v xs]) (post := [RowV E T v' (xs ++ ys)]) (w' := w') hC3 (fun G hG => ?_)
  obtain ⟨H1, H2, hrow2, _, _, g4⟩ := hG
  obtain ⟨_, _, _, hH1⟩ := RowV.owns hrow2
  have hown2 : w'.ownsRow 0 T E.sz v' (xs ++ ys).length (fl ++ ys.flatMap E.enc) := by rw [List.length_append, hm]; exact hown'
  have hnew := RowV.of_owns (E := E) (xs := xs ++ ys) hown2 (fun i q hq j u hj => by
    have hjs : j < E.sz := by
      have := (List.getElem?_eq_some_iff.1 hj).1
      rwa [E.len] at this
    rcases Nat.lt_or_ge i xs.length with hlt | hge
    · rw [List.getElem?_append_left hlt] at hq
      rw [List.getElem?_append_left (by rw [hown.1]; exact row_lt hlt hjs)]
      exact hfl i q hq j u hj
    · rw [List.getElem?_append_right hge] at hq
      have hle : fl.length ≤ i * E.sz + j := by rw [hown.1]; exact Nat.le_trans (Nat.mul_le_mul_right _ hge) (Nat.le_add_right _ _)
      rw [List.getElem?_append_right hle, hown.1]
      have := hflat2 ys (i - xs.length) q hq j u hj
      rw [← this]
      congr 1
      rw [Nat.sub_mul]
      have := Nat.mul_le_mul_right E.sz hge
      omega)
  refine ⟨fun x => v'.ownBlock = some x, ⟨_, fun _ => False, hnew, trivial, fun _ _ h => h, fun _ h => h.elim id False.elim⟩, ⟨hgr.os, hgr.tape, hgr.output, hgr.size, fun j hj hn => hgr.block j hj fun e => hn (g4 j (.inl ((hH1 j).1 e.symm)))⟩, fun x hx => ?_⟩
  rcases append_block (P := P) hu i1 i4 i2 i3 hzv E.pos hown hnl hnc h1c h63 hbytes hrun x hx with h | h
  · exact .inl (g4 x (.inl ((hH1 x).1 h)))
  · exact .inr h

/-- append(s, ..) with elements ys that lie in a block of their own. -/
theorem h_append {x y : Operand} {t b m c by_ : Nat} {zv : Value} {v : Value} {cs : Array Value} {bt : Nat} {fz : Nat × Nat} {ys : List X} (hev : ev k = true) (hwk : wk k = false)
    (ho : o.op = .call { callee := .builtin .append, args := #[x, y], argTypes := #[t, t] }) (hx : e.op x = some v) (hy : e.op y = some (.slice (some ⟨b, 0, none⟩) m c)) (hu : P.underlying t = some (.slice T)) (hi : ∃ i, P.info? T = some i ∧ i.size = E.sz ∧ i.bytes = by_ ∧ i.zero = some zv) (hzv : zv.cells.size = E.sz)
    (hp : Pulls L [RowV E T v xs, Blk b (.cells cs bt fz)] L') (hm : ys.length = m) (hcs : ∀ i q, ys[i]? = some q → ∀ j u, (E.enc q)[j]? = some u → cs[i * E.sz + j]? = some u)
    (h63 : xs.length + m ≤ maxLen) (hbytes : (xs.length + m) * by_ ≤ 140737488355328) {dd : Nat} (hdst : o.dst = some dd) (hd : okD n (some dd) = true)
    (h : ∀ v', (v' = .slice none 0 0 ↔ v = .slice none 0 0 ∧ m = 0) → HX P n ds ops ev wk K r (k + 1) ((dd, v') :: e) (St w0 F0 (RowV E T v' (xs ++ ys) :: Blk b (.cells cs bt fz) :: L'))) : HX1 P n ds ops ev wk K o r k e (St w0 F0 L) :=
  hx1_event hev (fun a w ha hC => by
    obtain ⟨v', w', hrun, hst, hnil⟩ := append_core (ys := ys) ho hx hy hu hi hzv hp hm hcs h63 hbytes ha hC
    unfold Oper.wp
    rw [hrun]
    exact ⟨_, _, hst, (fun h => by rw [hwk] at h; cases h), by rw [hdst]; exact ha.put hd v', h v' hnil⟩)
/-- .. at least one: an array comes of it. -/
theorem h_appendR {x y : Operand} {t b m c by_ : Nat} {zv : Value} {v : Value} {cs : Array Value} {bt : Nat} {fz : Nat × Nat} {ys : List X} (hev : ev k = true) (hwk : wk k = false)
    (ho : o.op = .call { callee := .builtin .append, args := #[x, y], argTypes := #[t, t] }) (hx : e.op x = some v) (hy : e.op y = some (.slice (some ⟨b, 0, none⟩) m c)) (hu : P.underlying t = some (.slice T)) (hi : ∃ i, P.info? T = some i ∧ i.size = E.sz ∧ i.bytes = by_ ∧ i.zero = some zv) (hzv : zv.cells.size = E.sz)
    (hp : Pulls L [RowV E T v xs, Blk b (.cells cs bt fz)] L') (hm : ys.length = m) (hm0 : Nat.beq m 0 = false) (hcs : ∀ i q, ys[i]? = some q → ∀ j u, (E.enc q)[j]? = some u → cs[i * E.sz + j]? = some u)
    (h63 : xs.length + m ≤ maxLen) (hbytes : (xs.length + m) * by_ ≤ 140737488355328) {dd : Nat} (hdst : o.dst = some dd) (hd : okD n (some dd) = true)
    (h : ∀ g' cap', HX P n ds ops ev wk K r (k + 1) ((dd, .slice (some ⟨g', 0, none⟩) (xs ++ ys).length cap') :: e) (St w0 F0 (Row E T g' cap' (xs ++ ys) :: Blk b (.cells cs bt fz) :: L'))) : HX1 P n ds ops ev wk K o r k e (St w0 F0 L) :=
  hx1_event hev (fun a w ha hC => by
    obtain ⟨v', w', hrun, hst, hnil⟩ := append_core (ys := ys) ho hx hy hu hi hzv hp hm hcs h63 hbytes ha hC
    unfold Oper.wp
    rw [hrun]
    rcases St.rowV.1 hst with ⟨e1, _, _⟩ | ⟨g', cap', rfl, hst'⟩
    · have := (hnil.1 e1).2
      subst this
      cases hm0
    · exact ⟨_, _, hst', (fun h => by rw [hwk] at h; cases h), by rw [hdst]; exact ha.put hd _, h g' cap'⟩)
/-- append(nil, ..). -/
theorem h_appendNil (E : Elem X) (T : Nat) {x y : Operand} {t b m c by_ : Nat} {zv : Value} {cs : Array Value} {bt : Nat} {fz : Nat × Nat} (ys : List X) (hev : ev k = true) (hwk : wk k = false)
    (ho : o.op = .call { callee := .builtin .append, args := #[x, y], argTypes := #[t, t] }) (hx : e.op x = some (.slice none 0 0)) (hy : e.op y = some (.slice (some ⟨b, 0, none⟩) m c)) (hu : P.underlying t = some (.slice T)) (hi : ∃ i, P.info? T = some i ∧ i.size = E.sz ∧ i.bytes = by_ ∧ i.zero = some zv) (hzv : zv.cells.size = E.sz)
    (hp : Pull L (Blk b (.cells cs bt fz)) L') (hm : ys.length = m) (hm0 : Nat.beq m 0 = false) (hcs : ∀ i q, ys[i]? = some q → ∀ j u, (E.enc q)[j]? = some u → cs[i * E.sz + j]? = some u)
    (h63 : m ≤ maxLen) (hbytes : m * by_ ≤ 140737488355328) {dd : Nat} (hdst : o.dst = some dd) (hd : okD n (some dd) = true)
    (h : ∀ g' cap', HX P n ds ops ev wk K r (k + 1) ((dd, .slice (some ⟨g', 0, none⟩) ys.length cap') :: e) (St w0 F0 (Row E T g' cap' ys :: Blk b (.cells cs bt fz) :: L'))) : HX1 P n ds ops ev wk K o r k e (St w0 F0 L) :=
  hx1_conv hev hwk (C' := St w0 F0 (RowV E T (.slice none 0 0) [] :: L)) (fun _ h => h.rowV_nil)
    (h_appendR (E := E) (T := T) (xs := []) (ys := ys) hev hwk ho hx hy hu hi hzv (.cons .head (.cons hp .nil)) hm hm0 hcs (by simpa using h63) (by simpa using hbytes) hdst hd h)
/-- append(s, ..), s an array. -/
theorem h_appendRow {x y : Operand} {t b m c by_ : Nat} {zv : Value} {cs : Array Value} {bt : Nat} {fz : Nat × Nat} {L'' : List Asn} (ys : List X) (hev : ev k = true) (hwk : wk k = false)
    (ho : o.op = .call { callee := .builtin .append, args := #[x, y], argTypes := #[t, t] }) (hp0 : Pull L (Row E T g cap xs) L') (hx : e.op x = some (.slice (some ⟨g, 0, none⟩) xs.length cap)) (hy : e.op y = some (.slice (some ⟨b, 0, none⟩) m c)) (hu : P.underlying t = some (.slice T)) (hi : ∃ i, P.info? T = some i ∧ i.size = E.sz ∧ i.bytes = by_ ∧ i.zero = some zv) (hzv : zv.cells.size = E.sz)
    (hp : Pull L' (Blk b (.cells cs bt fz)) L'') (hm : ys.length = m) (hm0 : Nat.beq m 0 = false) (hcs : ∀ i q, ys[i]? = some q → ∀ j u, (E.enc q)[j]? = some u → cs[i * E.sz + j]? = some u)
    (h63 : xs.length + m ≤ maxLen) (hbytes : (xs.length + m) * by_ ≤ 140737488355328) {dd : Nat} (hdst : o.dst = some dd) (hd : okD n (some dd) = true)
    (h : ∀ g' cap', HX P n ds ops ev wk K r (k + 1) ((dd, .slice (some ⟨g', 0, none⟩) (xs ++ ys).length cap') :: e) (St w0 F0 (Row E T g' cap' (xs ++ ys) :: Blk b (.cells cs bt fz) :: L''))) : HX1 P n ds ops ev wk K o r k e (St w0 F0 L) :=
  hx1_conv hev hwk (C' := St w0 F0 (RowV E T (.slice (some ⟨g, 0, none⟩) xs.length cap) xs :: L')) (fun _ h => (h.perm hp0.perm).rowV_mk)
    (h_appendR (E := E) (T := T) (xs := xs) (ys := ys) hev hwk ho hx hy hu hi hzv (.cons .head (.cons hp .nil)) hm hm0 hcs h63 hbytes hdst hd h)
end
end Go.Proofs.YtjnnlfeohbidhaaDoor
