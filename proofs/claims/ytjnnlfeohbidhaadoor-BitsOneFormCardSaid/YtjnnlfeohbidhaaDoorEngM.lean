import Derived.Test.YtjnnlfeohbidhaaDoorEngG
namespace Go.Proofs.YtjnnlfeohbidhaaDoor
open Go

/-! ### Maps -/
/-- How a key lies in memory. -/
structure KeyOf (A : Type) where
  val : A → Value
  desc : TypeDesc
  dec : DecidableEq A
  same : ∀ a b, Instr.sameNow desc (val a) (val b) = some (@decide (a = b) (dec a b))
  free : ∀ (P : Program) (w : World) (b : Bool) (t : TypeId) (a : A), P.underlying t = some desc → (Instr.checkKey b 10000 t (val a)).run P w = .ok () w
  bits : ∀ a, Instr.sameBits 10000 (val a) (val a) = true

variable {A : Type}

def mget (KO : KeyOf A) : List (A × Value) → A → Option Value
  | [], _ => none
  | (a, v) :: l, k => if @decide (k = a) (KO.dec k a) = true then some v else mget KO l k
def mset (KO : KeyOf A) : List (A × Value) → A → Value → List (A × Value)
  | [], k, v => [(k, v)]
  | (a, u) :: l, k, v => if @decide (k = a) (KO.dec k a) = true then (k, v) :: l else (a, u) :: mset KO l k v
def mdel (KO : KeyOf A) : List (A × Value) → A → List (A × Value)
  | [], _ => []
  | (a, u) :: l, k => if @decide (k = a) (KO.dec k a) = true then l else (a, u) :: mdel KO l k

/-- The entries of a map. -/
def entsOf (KO : KeyOf A) (es : Array MapEntry) (m : List (A × Value)) : Prop := es.toList.map (fun e => (e.key, e.val)) = m.map (fun p => (KO.val p.1, p.2))

/-- Block g is a map with these entries, in the order of their coming. -/
def MapA (KO : KeyOf A) (g : Nat) (m : List (A × Value)) : Asn where
  p w F := (∀ x, F x ↔ x = g) ∧ ∃ es clock, w.heap[g]? = some (.map es clock) ∧ entsOf KO es m
  lt := fun ⟨h1, _, _, h2, _⟩ x hx => by rw [(h1 x).1 hx]; exact (Array.getElem?_eq_some_iff.1 h2).1
  loc := fun ⟨h1, es, c, h2, r⟩ h => ⟨h1, es, c, (h g ((h1 g).2 rfl)).trans h2, r⟩

/-- The place of a key. -/
def midx (KO : KeyOf A) : List (A × Value) → A → Nat → Option (Nat × Value)
  | [], _, _ => none
  | (a, v) :: l, k, i => if @decide (k = a) (KO.dec k a) = true then some (i, v) else midx KO l k (i + 1)

theorem findNow_eq (KO : KeyOf A) (k : A) : ∀ (es : List MapEntry) (m : List (A × Value)) (i : Nat), es.map (fun e => (e.key, e.val)) = m.map (fun p => (KO.val p.1, p.2)) → Instr.findNow KO.desc (KO.val k) es i = some (midx KO m k i)
  | [], m, i, h => by
    cases m with
    | nil => rfl
    | cons p m => cases h
  | e :: es, m, i, h => by
    cases m with
    | nil => cases h
    | cons p m =>
      obtain ⟨a, v⟩ := p
      simp only [List.map_cons, List.cons.injEq, Prod.mk.injEq] at h
      obtain ⟨⟨h1, h2⟩, h3⟩ := h
      simp only [Instr.findNow, h1, KO.same]
      by_cases hk : @decide (k = a) (KO.dec k a) = true
      · rw [hk]; simp only [midx]; rw [if_pos hk, h2]
      · have hk' : @decide (k = a) (KO.dec k a) = false := by simpa using hk
        rw [hk']; simp only [midx]; rw [if_neg hk]
        exact findNow_eq KO k es m (i + 1) h3

theorem midx_get (KO : KeyOf A) (k : A) : ∀ (m : List (A × Value)) (i : Nat), (midx KO m k i).map (·.2) = mget KO m k
  | [], _ => rfl
  | (a, v) :: m, i => by
    simp only [midx, mget]
    split
    · rfl
    · exact midx_get KO k m (i + 1)

section
variable {P : Program} {w : World} {KO : KeyOf A}
theorem run_findKey {t : TypeId} (hu : P.underlying t = some KO.desc) {k : A} {es : List MapEntry} {m : List (A × Value)} (h : es.map (fun e => (e.key, e.val)) = m.map (fun p => (KO.val p.1, p.2))) : (Instr.findKey t (KO.val k) es).run P w = .ok (midx KO m k 0) w := by
  simp [Instr.findKey, run_und hu, findNow_eq KO k es m 0 h]

theorem run_getMap {g : Nat} {es : Array MapEntry} {c : Nat} (h : w.heap[g]? = some (.map es c)) : (getObj g).run P w = .ok (.map es c) w := by
  simp [getObj, Sem.run, h]

theorem run_lookup {t kt et : TypeId} {g : Nat} {es : Array MapEntry} {c : Nat} {m : List (A × Value)} {k : A} {z : Value} {ok : Bool} (hu : P.underlying t = some (.map kt et)) (hk : P.underlying kt = some KO.desc) (hz : ZeroOf P et z) (h : w.heap[g]? = some (.map es c)) (hm : entsOf KO es m) :
    (Instr.lookup t (.map (some g)) (KO.val k) ok).run P w = .ok (if ok then .tuple #[(mget KO m k).getD z, .bool (mget KO m k).isSome] else (mget KO m k).getD z) w := by
  have hg := midx_get KO k m 0
  simp only [Instr.lookup]
  simp [run_und hu, run_getMap h, KO.free P w _ kt k hk, run_findKey hk hm]
  cases hi : midx KO m k 0 with
  | none =>
    rw [hi] at hg
    simp only [Option.map_none] at hg
    simp [run_zero hz, ← hg]
  | some p =>
    rw [hi] at hg
    simp only [Option.map_some] at hg
    simp [← hg]

theorem run_setMap {g : Nat} {es es2 : Array MapEntry} {c c2 : Nat} (h : w.heap[g]? = some (.map es c)) : ∃ w', (setObj g (.map es2 c2)).run P w = .ok () w' ∧ But w w' (fun x => x = g) ∧ w'.heap[g]? = some (.map es2 c2) := by
  have hlt := (Array.getElem?_eq_some_iff.1 h).1
  refine ⟨{ w with heap := w.heap.setIfInBounds g (.map es2 c2) }, ?_, ⟨rfl, rfl, rfl, by simp, fun k _ hn => ?_⟩, ?_⟩
  · simp [setObj, Sem.run, h]
  · show (w.heap.setIfInBounds g _)[k]? = _
    rw [Array.getElem?_setIfInBounds_ne (by intro e; exact hn e.symm)]
  · show (w.heap.setIfInBounds g _)[g]? = _
    rw [Array.getElem?_setIfInBounds_self_of_lt hlt]

theorem midx_lt (KO : KeyOf A) (k : A) : ∀ (m : List (A × Value)) (i : Nat) (j : Nat) (v : Value), midx KO m k i = some (j, v) → ∃ d, j = i + d ∧ ∃ a, m[d]? = some (a, v) ∧ a = k
  | [], _, _, _, h => by cases h
  | (a, u) :: m, i, j, v, h => by
    simp only [midx] at h
    split at h
    · rename_i hk
      cases h
      exact ⟨0, rfl, a, rfl, (@of_decide_eq_true _ (KO.dec k a) hk).symm⟩
    · obtain ⟨d, rfl, a', h1, h2⟩ := midx_lt KO k m (i + 1) j v h
      exact ⟨d + 1, by omega, a', h1, h2⟩

theorem mset_idx (KO : KeyOf A) (k : A) (x : Value) : ∀ (m : List (A × Value)) (i : Nat) (j : Nat) (v : Value), midx KO m k i = some (j, v) → mset KO m k x = m.set (j - i) (k, x)
  | [], _, _, _, h => by cases h
  | (a, u) :: m, i, j, v, h => by
    simp only [midx] at h
    simp only [mset]
    split at h
    · rename_i hk
      cases h
      rw [if_pos hk]
      simp
    · rename_i hk
      rw [if_neg hk]
      obtain ⟨d, rfl, _⟩ := midx_lt KO k m (i + 1) j v h
      rw [mset_idx KO k x m (i + 1) _ v h, show i + 1 + d - (i + 1) = d by omega, show i + 1 + d - i = d + 1 by omega]
      rfl
theorem mset_new (KO : KeyOf A) (k : A) (x : Value) : ∀ (m : List (A × Value)) (i : Nat), midx KO m k i = none → mset KO m k x = m ++ [(k, x)]
  | [], _, _ => rfl
  | (a, u) :: m, i, h => by
    simp only [midx] at h
    simp only [mset]
    split at h
    · cases h
    · rename_i hk
      rw [if_neg hk, mset_new KO k x m (i + 1) h]
      rfl
theorem mdel_idx (KO : KeyOf A) (k : A) : ∀ (m : List (A × Value)) (i : Nat) (j : Nat) (v : Value), midx KO m k i = some (j, v) → mdel KO m k = m.eraseIdx (j - i)
  | [], _, _, _, h => by cases h
  | (a, u) :: m, i, j, v, h => by
    simp only [midx] at h
    simp only [mdel]
    split at h
    · rename_i hk
      cases h
      rw [if_pos hk]
      simp
    · rename_i hk
      rw [if_neg hk]
      obtain ⟨d, rfl, _⟩ := midx_lt KO k m (i + 1) j v h
      rw [mdel_idx KO k m (i + 1) _ v h, show i + 1 + d - (i + 1) = d by omega, show i + 1 + d - i = d + 1 by omega]
      rfl
theorem mdel_none (KO : KeyOf A) (k : A) : ∀ (m : List (A × Value)) (i : Nat), midx KO m k i = none → mdel KO m k = m
  | [], _, _ => rfl
  | (a, u) :: m, i, h => by
    simp only [midx] at h
    simp only [mdel]
    split at h
    · cases h
    · rename_i hk
      rw [if_neg hk, mdel_none KO k m (i + 1) h]

theorem run_mapUpdate {t kt et : TypeId} {g : Nat} {es : Array MapEntry} {c : Nat} {m : List (A × Value)} {k : A} {x : Value} (hu : P.underlying t = some (.map kt et)) (hk : P.underlying kt = some KO.desc) (h : w.heap[g]? = some (.map es c)) (hm : entsOf KO es m) :
    ∃ w', (Instr.mapUpdate t (.map (some g)) (KO.val k) x).run P w = .ok () w' ∧ But w w' (fun x => x = g) ∧ ∃ es' c', w'.heap[g]? = some (.map es' c') ∧ entsOf KO es' (mset KO m k x) := by
  cases hi : midx KO m k 0 with
  | none =>
    obtain ⟨w', h1, h2, h3⟩ := run_setMap (P := P) (es2 := es.push { key := KO.val k, val := x, born := c }) (c2 := c + 1) h
    refine ⟨w', ?_, h2, _, _, h3, ?_⟩
    · simp [Instr.mapUpdate, run_und hu, run_getMap h, KO.free P w _ kt k hk, run_findKey hk hm, hi, h1]
    · unfold entsOf at hm ⊢
      rw [mset_new KO k x m 0 hi]
      simp [hm]
  | some p =>
    obtain ⟨j, v⟩ := p
    obtain ⟨d, hd, a, hma, rfl⟩ := midx_lt KO k m 0 j v hi
    obtain rfl : j = d := by omega
    have hj : j < es.size := by
      have h1 := (List.getElem?_eq_some_iff.1 hma).1
      have h2 := congrArg List.length hm
      simp at h2
      omega
    obtain ⟨w', h1, h2, h3⟩ := run_setMap (P := P) (es2 := es.modify j fun e => { e with key := KO.val a, val := x }) (c2 := c) h
    have hkey : es[j].key = KO.val a := by
      have h5 := congrArg (fun l => l[j]?) hm
      simp [hma, hj] at h5
      exact h5.1
    refine ⟨w', ?_, h2, _, _, h3, ?_⟩
    · simp [Instr.mapUpdate, run_und hu, run_getMap h, KO.free P w _ kt a hk, run_findKey hk hm, hi, hj, hkey, Instr.keyThatStays, KO.bits, h1]
    · unfold entsOf at hm ⊢
      rw [mset_idx KO a x m 0 j v hi, Nat.sub_zero, List.map_set, ← hm]
      apply List.ext_getElem?
      intro i
      simp [List.getElem?_set]
      by_cases e : j = i
      · subst e
        simp [hj]
      · simp [e]

theorem map_erase {α β : Type} (f : α → β) : ∀ (l : List α) (j : Nat), (l.eraseIdx j).map f = (l.map f).eraseIdx j
  | [], _ => rfl
  | _ :: _, 0 => rfl
  | a :: l, j + 1 => by simp [map_erase f l j]
theorem run_delete {t kt et : TypeId} {ty : TypeId} {t2 : TypeId} {g : Nat} {es : Array MapEntry} {c : Nat} {m : List (A × Value)} {k : A} (hu : P.underlying t = some (.map kt et)) (hk : P.underlying kt = some KO.desc) (h : w.heap[g]? = some (.map es c)) (hm : entsOf KO es m) :
    ∃ w', (Builtin.delete_ #[t, t2] ty #[.map (some g), KO.val k]).run P w = .ok (.tuple #[]) w' ∧ But w w' (fun x => x = g) ∧ ∃ es' c', w'.heap[g]? = some (.map es' c') ∧ entsOf KO es' (mdel KO m k) := by
  cases hi : midx KO m k 0 with
  | none =>
    obtain ⟨w', h1, h2, h3⟩ := run_setMap (P := P) (es2 := es) (c2 := c) h
    refine ⟨w', ?_, h2, _, _, h3, ?_⟩
    · simp [Builtin.delete_, run_und hu, run_getMap h, KO.free P w _ kt k hk, run_findKey hk hm, hi, h1]
    · rw [mdel_none KO k m 0 hi]; exact hm
  | some p =>
    obtain ⟨j, v⟩ := p
    obtain ⟨w', h1, h2, h3⟩ := run_setMap (P := P) (es2 := es.eraseIdxIfInBounds j) (c2 := c) h
    refine ⟨w', ?_, h2, _, _, h3, ?_⟩
    · simp [Builtin.delete_, run_und hu, run_getMap h, KO.free P w _ kt k hk, run_findKey hk hm, hi, h1]
    · unfold entsOf at hm ⊢
      rw [mdel_idx KO k m 0 j v hi, Nat.sub_zero]
      have e1 : (m.eraseIdx j).map (fun p => (KO.val p.1, p.2)) = (m.map (fun p => (KO.val p.1, p.2))).eraseIdx j := map_erase _ _ _
      rw [e1, ← hm]
      unfold Array.eraseIdxIfInBounds
      split
      · simp [map_erase]
      · rename_i hge
        rw [List.eraseIdx_of_length_le (by simp; omega)]
end

section
variable {P : Program} {n : Nat} {ds : List Deferred} {ops : Array Oper} {ev wk : Nat → Bool} {K : Env → (World → Prop) → Prop} {r : List Oper} {o : Oper} {k : Nat} {e : Env} {w0 : World} {F0 : Nat → Prop} {L L' : List Asn} {KO : KeyOf A} {m : List (A × Value)} {g : Nat}

theorem h_lookup {t kt et : TypeId} {x y : Operand} {a : A} {z : Value} (ho : o.op = .lookup t x y false) (hp : Pull L (MapA KO g m) L') (hx : e.op x = some (.map (some g))) (hu : P.underlying t = some (.map kt et)) (hk : P.underlying kt = some KO.desc) (hz : ZeroOf P et z)
    (hy : e.op y = some (KO.val a)) {dd : Nat} (hdst : o.dst = some dd) (hd : okD n (some dd) = true) (h : HX P n ds ops ev wk K r (k + 1) ((dd, (mget KO m a).getD z) :: e) (St w0 F0 L)) : HX1 P n ds ops ev wk K o r k e (St w0 F0 L) :=
  hx1_read (by rw [ho]; rfl) (by rw [ho]; rfl) hdst hd (fun a' w ha hC => by
    obtain ⟨F, _, es, c, hb, hm⟩ := hC.get hp
    simp [execOp, ho, ha.eval hx, ha.eval hy, run_lookup hu hk hz hb hm]) h
theorem h_lookupOk {t kt et : TypeId} {x y : Operand} {a : A} {z : Value} (ho : o.op = .lookup t x y true) (hp : Pull L (MapA KO g m) L') (hx : e.op x = some (.map (some g))) (hu : P.underlying t = some (.map kt et)) (hk : P.underlying kt = some KO.desc) (hz : ZeroOf P et z)
    (hy : e.op y = some (KO.val a)) {dd : Nat} (hdst : o.dst = some dd) (hd : okD n (some dd) = true) (h : HX P n ds ops ev wk K r (k + 1) ((dd, .tuple #[(mget KO m a).getD z, .bool (mget KO m a).isSome]) :: e) (St w0 F0 L)) : HX1 P n ds ops ev wk K o r k e (St w0 F0 L) :=
  hx1_read (by rw [ho]; rfl) (by rw [ho]; rfl) hdst hd (fun a' w ha hC => by
    obtain ⟨F, _, es, c, hb, hm⟩ := hC.get hp
    simp [execOp, ho, ha.eval hx, ha.eval hy, run_lookup hu hk hz hb hm]) h

theorem h_lookupS {t kt et : TypeId} {x y : Operand} {a : A} {z v : Value} (ho : o.op = .lookup t x y true) (hp : Pull L (MapA KO g m) L') (hx : e.op x = some (.map (some g))) (hu : P.underlying t = some (.map kt et)) (hk : P.underlying kt = some KO.desc) (hz : ZeroOf P et z) (hy : e.op y = some (KO.val a)) (hv : mget KO m a = some v)
    {dd : Nat} (hdst : o.dst = some dd) (hd : okD n (some dd) = true) (h : HX P n ds ops ev wk K r (k + 1) ((dd, .tuple #[v, .bool true]) :: e) (St w0 F0 L)) : HX1 P n ds ops ev wk K o r k e (St w0 F0 L) :=
  h_lookupOk (a := a) ho hp hx hu hk hz hy hdst hd (by rw [hv]; exact h)
theorem h_lookupN {t kt et : TypeId} {x y : Operand} {a : A} {z : Value} (ho : o.op = .lookup t x y true) (hp : Pull L (MapA KO g m) L') (hx : e.op x = some (.map (some g))) (hu : P.underlying t = some (.map kt et)) (hk : P.underlying kt = some KO.desc) (hz : ZeroOf P et z) (hy : e.op y = some (KO.val a)) (hv : mget KO m a = none)
    {dd : Nat} (hdst : o.dst = some dd) (hd : okD n (some dd) = true) (h : HX P n ds ops ev wk K r (k + 1) ((dd, .tuple #[z, .bool false]) :: e) (St w0 F0 L)) : HX1 P n ds ops ev wk K o r k e (St w0 F0 L) :=
  h_lookupOk (a := a) ho hp hx hu hk hz hy hdst hd (by rw [hv]; exact h)

theorem St.turn {B B' : Asn} {w w' : World} (hg : ∀ w F, B.p w F → ∀ x, F x ↔ x = g) (h : St w0 F0 (B :: L') w) (hb : But w w' (fun x => x = g)) (hB : ∀ F, B.p w F → B'.p w' F) : St w0 F0 (B' :: L') w' := by
  have := St.call (pre := [B]) (post := [B']) (rest := L') (w' := w') (w := w) h (fun G hG => by
    obtain ⟨G1, G2, g1, _, _, g4⟩ := hG
    have hg1 := hg _ _ g1
    exact ⟨G1, ⟨G1, fun _ => False, hB _ g1, trivial, fun _ _ h => h, fun _ h => h.elim id False.elim⟩, ⟨hb.os, hb.tape, hb.output, hb.size, fun j hj hn => hb.blk j hj fun e => hn (g4 j (.inl ((hg1 j).2 e)))⟩, fun x hx => .inl (g4 x (.inl hx))⟩)
  simpa using this

theorem h_mapUpdate {t kt et : TypeId} {x y z : Operand} {a : A} {v : Value} (hev : ev k = true) (hwk : wk k = false) (ho : o.op = .mapUpdate t x y z) (hp : Pull L (MapA KO g m) L') (hdst : o.dst = none) (hx : e.op x = some (.map (some g))) (hz : e.op z = some v) (hu : P.underlying t = some (.map kt et)) (hk : P.underlying kt = some KO.desc)
    (hy : e.op y = some (KO.val a)) (h : HX P n ds ops ev wk K r (k + 1) e (St w0 F0 (MapA KO g (mset KO m a v) :: L'))) : HX1 P n ds ops ev wk K o r k e (St w0 F0 L) :=
  hx1_event hev (fun a' w ha hC => by
    have hC' := hC.perm hp.perm
    obtain ⟨F, _, es, c, hb, hm⟩ := hC.get hp
    obtain ⟨w', hrun, hbut, es', c', hh, hm'⟩ := run_mapUpdate (k := a) (x := v) hu hk hb hm
    unfold Oper.wp
    have : (execOp a'.eval o).run P w = .ok .skip w' := by simp [execOp, ho, ha.eval hx, ha.eval hy, ha.eval hz, hrun]
    rw [this]
    refine ⟨_, e, hC'.turn (g := g) (B := MapA KO g m) (B' := MapA KO g (mset KO m a v)) (fun _ _ h => h.1) hbut (fun F hF => ⟨hF.1, es', c', hh, hm'⟩), (fun h => by rw [hwk] at h; cases h), ?_, h⟩
    rw [hdst]
    exact ha)
theorem h_delete {t t2 kt et : TypeId} {x y : Operand} {a : A} (hev : ev k = true) (hwk : wk k = false) (ho : o.op = .call { callee := .builtin .delete, args := #[x, y], argTypes := #[t, t2] }) (hp : Pull L (MapA KO g m) L') (hx : e.op x = some (.map (some g))) (hu : P.underlying t = some (.map kt et)) (hk : P.underlying kt = some KO.desc)
    (hy : e.op y = some (KO.val a)) {dd : Nat} (hdst : o.dst = some dd) (hd : okD n (some dd) = true) (h : HX P n ds ops ev wk K r (k + 1) ((dd, .tuple #[]) :: e) (St w0 F0 (MapA KO g (mdel KO m a) :: L'))) : HX1 P n ds ops ev wk K o r k e (St w0 F0 L) :=
  hx1_event hev (fun a' w ha hC => by
    have hC' := hC.perm hp.perm
    obtain ⟨F, _, es, c, hb, hm⟩ := hC.get hp
    obtain ⟨w', hrun, hbut, es', c', hh, hm'⟩ := run_delete (k := a) (ty := o.type) (t2 := t2) hu hk hb hm
    unfold Oper.wp
    have : (execOp a'.eval o).run P w = .ok (.value (.tuple #[])) w' := by simp [execOp, ho, resolve, invoke, builtin, ha.eval hx, ha.eval hy, hrun]
    rw [this]
    exact ⟨_, _, hC'.turn (g := g) (B := MapA KO g m) (B' := MapA KO g (mdel KO m a)) (fun _ _ h => h.1) hbut (fun F hF => ⟨hF.1, es', c', hh, hm'⟩), (fun h => by rw [hwk] at h; cases h), by rw [hdst]; exact ha.put hd _, h⟩)
theorem h_delete0 {t t2 kt et : TypeId} {x y : Operand} {a : A} (hev : ev k = true) (hwk : wk k = false) (ho : o.op = .call { callee := .builtin .delete, args := #[x, y], argTypes := #[t, t2] }) (hp : Pull L (MapA KO g m) L') (hx : e.op x = some (.map (some g))) (hu : P.underlying t = some (.map kt et)) (hk : P.underlying kt = some KO.desc)
    (hy : e.op y = some (KO.val a)) (hdst : o.dst = none) (h : HX P n ds ops ev wk K r (k + 1) e (St w0 F0 (MapA KO g (mdel KO m a) :: L'))) : HX1 P n ds ops ev wk K o r k e (St w0 F0 L) :=
  hx1_event hev (fun a' w ha hC => by
    have hC' := hC.perm hp.perm
    obtain ⟨F, _, es, c, hb, hm⟩ := hC.get hp
    obtain ⟨w', hrun, hbut, es', c', hh, hm'⟩ := run_delete (k := a) (ty := o.type) (t2 := t2) hu hk hb hm
    unfold Oper.wp
    have : (execOp a'.eval o).run P w = .ok (.value (.tuple #[])) w' := by simp [execOp, ho, resolve, invoke, builtin, ha.eval hx, ha.eval hy, hrun]
    rw [this]
    exact ⟨_, e, hC'.turn (g := g) (B := MapA KO g m) (B' := MapA KO g (mdel KO m a)) (fun _ _ h => h.1) hbut (fun F hF => ⟨hF.1, es', c', hh, hm'⟩), (fun h => by rw [hwk] at h; cases h), by rw [hdst]; exact ha, h⟩)
theorem h_makeMap {t : TypeId} (hev : ev k = true) (ho : o.op = .makeMap t none) {dd : Nat} (hdst : o.dst = some dd) (hd : okD n (some dd) = true)
    (h : ∀ g, HX P n ds ops ev wk K r (k + 1) ((dd, .map (some g)) :: e) (St w0 F0 (MapA KO g [] :: L))) : HX1 P n ds ops ev wk K o r k e (St w0 F0 L) :=
  hx1_event hev (fun a w ha hC => by
    unfold Oper.wp
    have : (execOp a.eval o).run P w = .ok (.value (.map (some w.heap.size))) (w.alloc (.map #[] 0)) := by
      simp [execOp, ho, Instr.makeMap, newObj, Sem.run]
    rw [this]
    refine ⟨St w0 F0 (MapA KO w.heap.size [] :: L), _, ?_, fun _ _ hh => hh.drop, by rw [hdst]; exact ha.put hd _, h _⟩
    obtain ⟨F, ⟨F1, F2, ⟨h1, h2⟩, r⟩, rr⟩ := hC.new (.map #[] 0)
    exact ⟨F, ⟨F1, F2, ⟨h1, #[], 0, h2, rfl⟩, r⟩, rr⟩)
theorem h_len_map {x : Operand} {t kt et : TypeId} {ats : Array TypeId} (hev : ev k = true) (ho : o.op = .call { callee := .builtin .len, args := #[x], argTypes := ats }) (hat : nth ats.toList 0 = some t) (hu : P.underlying t = some (.map kt et)) (hp : Pull L (MapA KO g m) L')
    (hx : e.op x = some (.map (some g))) {dd : Nat} (hdst : o.dst = some dd) (hd : okD n (some dd) = true) (h : HX P n ds ops ev wk K r (k + 1) ((dd, .int .i64 (m.length : Int)) :: e) (St w0 F0 L)) : HX1 P n ds ops ev wk K o r k e (St w0 F0 L) :=
  hx1_event hev (fun a w ha hC => by
    obtain ⟨F, _, es, c, hb, hm⟩ := hC.get hp
    have hl : es.size = m.length := by have := congrArg List.length hm; simpa using this
    unfold Oper.wp
    have : (execOp a.eval o).run P w = .ok (.value (.int .i64 (m.length : Int))) w := by
      simp [execOp, ho, resolve, invoke, builtin, Builtin.len_, ha.eval hx, nth_at hat, run_und hu, goInt, run_getMap hb, hl]
    rw [this]
    exact ⟨St w0 F0 L, _, hC, fun _ _ h => h, by rw [hdst]; exact ha.put hd _, h⟩)
end

theorem ba_beq (a b : ByteArray) : (a == b) = decide (a = b) := by
  by_cases h : a = b
  · subst h
    simp only [decide_true]
    exact beq_self_eq_true (a := a.data)
  · simp only [h, decide_false]
    have : ¬ a.data = b.data := fun e => h (by cases a; cases b; cases e; rfl)
    show (a.data == b.data) = false
    exact beq_eq_false_iff_ne.2 this
/-- Keys that are whole numbers. -/
def intKey (q : IntKind) : KeyOf Int where
  val a := .int q a
  desc := .int q
  dec := inferInstance
  same a b := by
    simp only [Instr.sameNow, if_true]
    congr 1
  free P w b t a h := by
    show (Instr.checkKey b (9999 + 1) t _).run P w = _
    rw [Instr.checkKey]
    simp [run_und h]
  bits a := by simp [Instr.sameBits]
/-- Keys that are texts. -/
def strKey : KeyOf ByteArray where
  val a := .string a
  desc := .string
  dec := inferInstance
  same a b := by
    simp only [Instr.sameNow]
    congr 1
    exact ba_beq a b
  free P w b t a h := by
    show (Instr.checkKey b (9999 + 1) t _).run P w = _
    rw [Instr.checkKey]
    simp [run_und h]
  bits a := by simp only [Instr.sameBits]; rw [ba_beq]; simp

/-! ### What maps tell -/
section
variable {KO : KeyOf A}
theorem mget_mset (m : List (A × Value)) (k k' : A) (v : Value) : mget KO (mset KO m k v) k' = if @decide (k' = k) (KO.dec k' k) = true then some v else mget KO m k' := by
  induction m with
  | nil => simp only [mset, mget]
  | cons p m ih =>
    obtain ⟨a, u⟩ := p
    simp only [mset]
    by_cases hk : @decide (k = a) (KO.dec k a) = true
    · rw [if_pos hk]
      simp only [mget]
      have e : k = a := @of_decide_eq_true _ (KO.dec k a) hk
      subst e
      by_cases hk2 : @decide (k' = k) (KO.dec k' k) = true
      · rw [if_pos hk2, if_pos hk2]
      · rw [if_neg hk2, if_neg hk2, if_neg hk2]
    · rw [if_neg hk]
      simp only [mget]
      by_cases hk2 : @decide (k' = a) (KO.dec k' a) = true
      · rw [if_pos hk2]
        have e : k' = a := @of_decide_eq_true _ (KO.dec k' a) hk2
        subst e
        rw [if_neg (fun h => hk (@decide_eq_true _ (KO.dec k k') (@of_decide_eq_true _ (KO.dec k' k) h).symm)), if_pos (@decide_eq_true _ (KO.dec k' k') rfl)]
      · rw [if_neg hk2, ih, if_neg hk2]
theorem mget_mem {m : List (A × Value)} {k : A} {v : Value} (h : mget KO m k = some v) : (k, v) ∈ m := by
  induction m with
  | nil => cases h
  | cons p m ih =>
    obtain ⟨a, u⟩ := p
    simp only [mget] at h
    split at h
    · rename_i hk
      cases h
      rw [@of_decide_eq_true _ (KO.dec k a) hk]
      exact List.mem_cons_self ..
    · exact List.mem_cons_of_mem _ (ih h)
theorem mget_none {m : List (A × Value)} {k : A} : mget KO m k = none ↔ k ∉ m.map (·.1) := by
  induction m with
  | nil => simp [mget]
  | cons p m ih =>
    obtain ⟨a, u⟩ := p
    simp only [mget, List.map_cons, List.mem_cons]
    split
    · rename_i hk
      have := @of_decide_eq_true _ (KO.dec k a) hk
      simp [this]
    · rename_i hk
      have : ¬ k = a := fun e => hk (@decide_eq_true _ (KO.dec k a) e)
      rw [ih]
      simp [this]
theorem mset_keys (m : List (A × Value)) (k : A) (v : Value) : (k ∈ m.map (·.1) → (mset KO m k v).map (·.1) = m.map (·.1)) ∧ (k ∉ m.map (·.1) → (mset KO m k v).map (·.1) = m.map (·.1) ++ [k]) := by
  induction m with
  | nil => simp [mset]
  | cons p m ih =>
    obtain ⟨a, u⟩ := p
    simp only [mset, List.map_cons, List.mem_cons]
    by_cases hk : @decide (k = a) (KO.dec k a) = true
    · have e := @of_decide_eq_true _ (KO.dec k a) hk
      subst e
      rw [if_pos hk]
      simp
    · have e : ¬ k = a := fun e => hk (@decide_eq_true _ (KO.dec k a) e)
      rw [if_neg hk]
      simp only [e, false_or, List.map_cons]
      exact ⟨fun h => by rw [ih.1 h], fun h => by rw [ih.2 h]; rfl⟩
theorem mset_nodup {m : List (A × Value)} (h : (m.map (·.1)).Nodup) (k : A) (v : Value) : ((mset KO m k v).map (·.1)).Nodup := by
  by_cases hk : k ∈ m.map (·.1)
  · rw [(mset_keys m k v).1 hk]; exact h
  · rw [(mset_keys m k v).2 hk, List.nodup_append]
    refine ⟨h, by simp, fun a ha b hb => ?_⟩
    simp at hb
    subst hb
    intro e
    subst e
    exact hk ha
theorem mdel_keys (m : List (A × Value)) (k : A) : (mdel KO m k).map (·.1) = (m.map (·.1)).eraseP (fun a => @decide (k = a) (KO.dec k a)) := by
  induction m with
  | nil => rfl
  | cons p m ih =>
    obtain ⟨a, u⟩ := p
    simp only [mdel, List.map_cons]
    by_cases hk : @decide (k = a) (KO.dec k a) = true
    · rw [if_pos hk, List.eraseP_cons_of_pos (by simpa using hk)]
    · rw [if_neg hk, List.eraseP_cons_of_neg (by simpa using hk), List.map_cons, ih]
theorem mdel_nodup {m : List (A × Value)} (h : (m.map (·.1)).Nodup) (k : A) : ((mdel KO m k).map (·.1)).Nodup := by
  rw [mdel_keys]
  exact h.sublist List.eraseP_sublist
theorem mget_mdel {m : List (A × Value)} (h : (m.map (·.1)).Nodup) (k k' : A) : mget KO (mdel KO m k) k' = if @decide (k' = k) (KO.dec k' k) = true then none else mget KO m k' := by
  induction m with
  | nil => simp [mdel, mget]
  | cons p m ih =>
    obtain ⟨a, u⟩ := p
    simp only [List.map_cons, List.nodup_cons] at h
    simp only [mdel]
    by_cases hk : @decide (k = a) (KO.dec k a) = true
    · have e := @of_decide_eq_true _ (KO.dec k a) hk
      subst e
      rw [if_pos hk]
      simp only [mget]
      by_cases hk2 : @decide (k' = k) (KO.dec k' k) = true
      · rw [if_pos hk2]
        have e2 := @of_decide_eq_true _ (KO.dec k' k) hk2
        subst e2
        exact mget_none.2 h.1
      · rw [if_neg hk2, if_neg hk2]
    · rw [if_neg hk]
      simp only [mget]
      by_cases hk2 : @decide (k' = a) (KO.dec k' a) = true
      · rw [if_pos hk2]
        have e2 := @of_decide_eq_true _ (KO.dec k' a) hk2
        subst e2
        rw [if_neg (fun h => hk (@decide_eq_true _ (KO.dec k k') (@of_decide_eq_true _ (KO.dec k' k) h).symm)), if_pos (@decide_eq_true _ (KO.dec k' k') rfl)]
      · rw [if_neg hk2, ih h.2, if_neg hk2]
end
end Go.Proofs.YtjnnlfeohbidhaaDoor
