import Derived.Test.YtbelfaoolnijiaaEngL
import Derived.Maps.RangeRun
namespace Go.Proofs.Ytbelfaoolnijiaa
open Go Go.Proofs

/-! ### Ranges over a map that the round leaves as it is -/
section
variable {A : Type}
/-- Block r goes through the map in block g: 'rest' is still to come, 'last' came last. -/
def IterA (KO : KeyOf A) (g r : Nat) (m rest : List (A × Value)) (last : Option (A × Value)) : Asn where
  p w F := (∀ b, F b → b < w.heap.size) ∧ F g ∧ F r ∧ g ≠ r ∧ ∃ es clock seen, w.heap[g]? = some (.map es clock) ∧ w.heap[r]? = some (.mapIter (some g) clock seen clock) ∧ entsOf KO es m ∧ Born es clock ∧
    (leftOf es seen).toList.map (fun e => (e.key, e.val)) = rest.map (fun p => (KO.val p.1, p.2)) ∧ ∀ q, last = some q → ∃ (sn : Array Nat) (e : MapEntry), seen = sn.push e.born ∧ e ∈ es.toList ∧ e.key = KO.val q.1 ∧ e.val = q.2
  lt := fun h => h.1
  loc := fun {w w' F} ⟨h1, h2, h3, h4, es, c, seen, h5, h6, h7⟩ h => ⟨fun b hb => by
    have e := h b hb
    rw [Array.getElem?_eq_getElem (h1 b hb)] at e
    exact (Array.getElem?_eq_some_iff.1 e).1, h2, h3, h4, es, c, seen, (h g h2).trans h5, (h r h3).trans h6, h7⟩

theorem erase_born : ∀ (L : List MapEntry) (j : Nat) (e : MapEntry), (L.map (·.born)).Nodup → L[j]? = some e → L.filter (fun x => x.born != e.born) = L.eraseIdx j
  | [], j, e, _, h => by cases h
  | a :: L, 0, e, hn, h => by
    obtain rfl : a = e := by simpa using h
    rw [List.map_cons, List.nodup_cons] at hn
    rw [List.filter_cons, if_neg (by simp), List.eraseIdx_cons_zero]
    apply List.filter_eq_self.2
    intro x hx
    have : x.born ≠ a.born := fun e => hn.1 (by rw [← e]; exact List.mem_map_of_mem hx)
    simpa using this
  | a :: L, j + 1, e, hn, h => by
    rw [List.map_cons, List.nodup_cons] at hn
    have h2 : L[j]? = some e := by simpa using h
    have : a.born ≠ e.born := fun e' => hn.1 (by rw [e']; exact List.mem_map_of_mem (List.mem_iff_getElem?.2 ⟨j, h2⟩))
    rw [List.filter_cons, if_pos (by simpa using this), erase_born L j e hn.2 h2, List.eraseIdx_cons_succ]
theorem left_push (es : Array MapEntry) (seen : Array Nat) (b : Nat) : (leftOf es (seen.push b)).toList = (leftOf es seen).toList.filter (fun x => x.born != b) := by
  unfold leftOf
  rw [Array.toList_filter, Array.toList_filter, List.filter_filter]
  congr 1
  funext x
  by_cases h1 : x.born = b
  · simp [h1]
  · by_cases h2 : x.born ∈ seen
    · simp [h1, h2]
    · simp [h1, h2]
theorem left_none (es : Array MapEntry) : (leftOf es #[]).toList = es.toList := by
  unfold leftOf
  rw [Array.toList_filter]
  simp
theorem left_sub {es : Array MapEntry} {seen : Array Nat} {e : MapEntry} (h : e ∈ (leftOf es seen).toList) : e ∈ es.toList := by
  unfold leftOf at h
  rw [Array.toList_filter] at h
  exact (List.mem_filter.1 h).1
theorem left_nodup {es : Array MapEntry} {seen : Array Nat} (h : (es.toList.map (·.born)).Nodup) : ((leftOf es seen).toList.map (·.born)).Nodup := by
  unfold leftOf
  rw [Array.toList_filter]
  exact h.sublist (List.filter_sublist.map _)

section
variable {KO : KeyOf A} {g r : Nat} {m rest : List (A × Value)} {last : Option (A × Value)} {w0 : World} {F0 : Nat → Prop} {L : List Asn} {w : World}
theorem IterA.mk {es : Array MapEntry} {c : Nat} (h : St w0 F0 (Blk r (.mapIter (some g) c #[] c) :: MapA KO g m :: L) w) (hb : w.heap[g]? = some (.map es c)) : St w0 F0 (IterA KO g r m m none :: L) w := by
  obtain ⟨F, ⟨F1, F2, ⟨b1, b2⟩, ⟨F3, F4, ⟨m1, es', c', m2, m3, m4⟩, hL, d2, u2⟩, d1, u1⟩, hbut, hsub⟩ := h
  rw [hb] at m2
  injection m2 with m2
  injection m2 with e1 e2
  subst e1 e2
  have hr : F1 r := (b1 r).2 rfl
  have hg : F3 g := (m1 g).2 rfl
  refine ⟨F, ⟨fun b => F1 b ∨ F3 b, F4, ⟨?_, .inr hg, .inl hr, ?_, es, c, #[], hb, b2, m3, m4, ?_, fun q h => by cases h⟩, hL, ?_, ?_⟩, hbut, hsub⟩
  · rintro b (h | h)
    · rw [(b1 b).1 h]; exact (Array.getElem?_eq_some_iff.1 b2).1
    · rw [(m1 b).1 h]; exact (Array.getElem?_eq_some_iff.1 hb).1
  · intro e
    subst e
    exact d1 g hr (u2 g (.inl hg))
  · rw [left_none]; exact m3
  · rintro b (h | h) h4
    · exact d1 b h (u2 b (.inr h4))
    · exact d2 b h h4
  · rintro b ((h | h) | h)
    · exact u1 b (.inl h)
    · exact u1 b (.inr (u2 b (.inl h)))
    · exact u1 b (.inr (u2 b (.inr h)))
/-- The iterator is let go. -/
theorem IterA.map (h : St w0 F0 (IterA KO g r m rest last :: L) w) : St w0 F0 (MapA KO g m :: L) w := by
  obtain ⟨F, ⟨F1, F2, ⟨i1, i2, i3, i4, es, c, seen, i5, i6, i7, i8, _⟩, hL, d1, u1⟩, hbut, hsub⟩ := h
  exact ⟨F, ⟨fun b => b = g, F2, ⟨fun _ => Iff.rfl, es, c, i5, i7, i8⟩, hL, fun b hb h2 => d1 b (by rw [hb]; exact i2) h2, fun b hb => u1 b (hb.imp (fun e => by rw [e]; exact i2) id)⟩, hbut, hsub⟩
theorem St.turnIn {B B' : Asn} {L' : List Asn} {w w' : World} (hg : ∀ w F, B.p w F → F g) (h : St w0 F0 (B :: L') w) (hb : But w w' (fun x => x = g)) (hB : ∀ F, B.p w F → B'.p w' F) : St w0 F0 (B' :: L') w' := by
  have := St.call (pre := [B]) (post := [B']) (rest := L') (w' := w') (w := w) h (fun G hG => by
    obtain ⟨G1, G2, g1, _, _, g4⟩ := hG
    exact ⟨G1, ⟨G1, fun _ => False, hB _ g1, trivial, fun _ _ h => h, fun _ h => h.elim id False.elim⟩, ⟨hb.os, hb.tape, hb.output, hb.size, fun j hj hn => hb.blk j hj fun e => hn (g4 j (.inl (by rw [e]; exact hg _ _ g1)))⟩, fun x hx => .inl (g4 x (.inl hx))⟩)
  simpa using this
end

section
variable {P : Program} {n : Nat} {ds : List Deferred} {ops : Array Oper} {ev wk : Nat → Bool} {K : Env → (World → Prop) → Prop} {rs : List Oper} {o : Oper} {k : Nat} {e : Env} {w0 : World} {F0 : Nat → Prop} {L L' : List Asn} {KO : KeyOf A} {m rest : List (A × Value)} {last : Option (A × Value)} {g r : Nat}

/-- A range over a map begins. -/
theorem h_range {t kt et : TypeId} {x : Operand} (hev : ev k = true) (hwk : wk k = false) (ho : o.op = .range t x) (hp : Pull L (MapA KO g m) L') (hx : e.op x = some (.map (some g))) (hu : P.underlying t = some (.map kt et)) {dd : Nat} (hdst : o.dst = some dd) (hd : okD n (some dd) = true)
    (h : ∀ r, HX P n ds ops ev wk K rs (k + 1) ((dd, .pointer (some ⟨r, 0, none⟩)) :: e) (St w0 F0 (IterA KO g r m m none :: L'))) : HX1 P n ds ops ev wk K o rs k e (St w0 F0 L) :=
  hx1_event hev (fun a w ha hC => by
    obtain ⟨F, _, es, c, hb, hm, hn⟩ := hC.get hp
    unfold Oper.wp
    have : (execOp a.eval o).run P w = .ok (.value (.pointer (some ⟨w.heap.size, 0, none⟩))) (w.alloc (.mapIter (some g) c #[] c)) := by
      simp [execOp, ho, ha.eval hx, run_range_map w t kt et g es c hu hb]
    rw [this]
    have h1 := (hC.perm hp.perm).new (.mapIter (some g) c #[] c)
    have hlt : g < w.heap.size := (Array.getElem?_eq_some_iff.1 hb).1
    exact ⟨_, _, IterA.mk h1 (by rw [heap_alloc_old w _ hlt]; exact hb), (fun h => by rw [hwk] at h; cases h), by rw [hdst]; exact ha.put hd _, h _⟩)
/-- The next entry, whichever it is. -/
theorem h_next {x : Operand} (hev : ev k = true) (hwk : wk k = false) (ho : o.op = .next x false) (hp : Pull L (IterA KO g r m rest last) L') (hx : e.op x = some (.pointer (some ⟨r, 0, none⟩))) {dd : Nat} (hdst : o.dst = some dd) (hd : okD n (some dd) = true)
    (h0 : rest = [] → HX P n ds ops ev wk K rs (k + 1) ((dd, .tuple #[.bool false]) :: e) (St w0 F0 (IterA KO g r m rest last :: L')))
    (h1 : ∀ j a v, rest[j]? = some (a, v) → HX P n ds ops ev wk K rs (k + 1) ((dd, .tuple #[.bool true, KO.val a, v]) :: e) (St w0 F0 (IterA KO g r m (rest.eraseIdx j) (some (a, v)) :: L'))) : HX1 P n ds ops ev wk K o rs k e (St w0 F0 L) :=
  hx1_event hev (fun a w ha hC => by
    have hC' := hC.perm hp.perm
    obtain ⟨F, i1, i2, i3, i4, es, c, seen, i5, i6, i7, i8, i9, i10⟩ := hC.get hp
    have hlen := congrArg List.length i9
    rw [List.length_map, List.length_map] at hlen
    unfold Oper.wp
    rcases run_next_at (P := P) w o.type r g c c seen es c i6 i5 i8.2 (Nat.le_refl _) with ⟨hs, hrun⟩ | ⟨en, hen, w1, hw1, hrun⟩
    · have : (execOp a.eval o).run P w = .ok (.value (.tuple #[.bool false])) w := by simp [execOp, ho, ha.eval hx, hrun]
      rw [this]
      have hr0 : rest = [] := by
        apply List.eq_nil_of_length_eq_zero
        rw [← hlen]
        simpa using hs
      exact ⟨_, _, hC', (fun h => by rw [hwk] at h; cases h), by rw [hdst]; exact ha.put hd _, h0 hr0⟩
    · obtain ⟨j, hj⟩ := List.mem_iff_getElem?.1 hen
      have hjr : j < rest.length := by
        rw [← hlen]
        exact (List.getElem?_eq_some_iff.1 hj).1
      obtain ⟨⟨ka, v⟩, hkv⟩ : ∃ q, rest[j]? = some q := ⟨_, List.getElem?_eq_getElem hjr⟩
      have hee := congrArg (fun l => l[j]?) i9
      simp only [List.getElem?_map, hj, hkv, Option.map_some] at hee
      injection hee with hee
      injection hee with hek hev'
      have : (execOp a.eval o).run P w = .ok (.value (.tuple #[.bool true, KO.val ka, v])) (Go.ChangeMaps.setBlock w1 r (.mapIter (some g) c (seen.push en.born) c)) := by simp [execOp, ho, ha.eval hx, hrun, hek, hev']
      rw [this]
      have hrl : r < w.heap.size := (Array.getElem?_eq_some_iff.1 i6).1
      have hbut : But w (Go.ChangeMaps.setBlock w1 r (.mapIter (some g) c (seen.push en.born) c)) (fun x => x = r) := by
        have hset : ∀ w2 : World, But w2 (Go.ChangeMaps.setBlock w2 r (.mapIter (some g) c (seen.push en.born) c)) (fun x => x = r) := fun w2 => ⟨rfl, rfl, rfl, by simp [Go.ChangeMaps.setBlock], fun q _ hq => by simp [Go.ChangeMaps.setBlock, Array.getElem?_setIfInBounds_ne (Ne.symm hq)]⟩
        rcases hw1 with rfl | rfl
        · exact hset _
        · exact (But.drew w _ _).trans (hset _)
      have hnew : (Go.ChangeMaps.setBlock w1 r (.mapIter (some g) c (seen.push en.born) c)).heap[r]? = some (.mapIter (some g) c (seen.push en.born) c) := by
        have : r < w1.heap.size := by rcases hw1 with rfl | rfl <;> exact hrl
        simp [Go.ChangeMaps.setBlock, this]
      refine ⟨_, _, St.turnIn (h := hC') (g := r) (B := IterA KO g r m rest last) (B' := IterA KO g r m (rest.eraseIdx j) (some (ka, v))) (fun _ _ h => h.2.2.1) hbut (fun F hF => ?_), (fun h => by rw [hwk] at h; cases h), by rw [hdst]; exact ha.put hd _, h1 j ka v hkv⟩
      obtain ⟨f1, f2, f3, f4, _⟩ := hF
      have hgb := hbut.blk g (Array.getElem?_eq_some_iff.1 i5).1 f4
      refine ⟨fun b hb => Nat.lt_of_lt_of_le (f1 b hb) hbut.size, f2, f3, f4, es, c, seen.push en.born, hgb.trans i5, hnew, i7, i8, ?_, ?_⟩
      · rw [left_push, erase_born _ j en (left_nodup i8.1) hj, map_erase, i9, ← map_erase]
      · intro q hq
        cases hq
        exact ⟨seen, en, rfl, left_sub hen, hek, hev'⟩)
/-- The entry that came last. -/
theorem h_entry {x : Operand} {a : A} {v : Value} (hev : ev k = true) (ho : o.op = .entry x) (hp : Pull L (IterA KO g r m rest (some (a, v))) L') (hx : e.op x = some (.pointer (some ⟨r, 0, none⟩))) {dd : Nat} (hdst : o.dst = some dd) (hd : okD n (some dd) = true)
    (h : HX P n ds ops ev wk K rs (k + 1) ((dd, .tuple #[KO.val a, v]) :: e) (St w0 F0 L)) : HX1 P n ds ops ev wk K o rs k e (St w0 F0 L) :=
  hx1_event hev (fun a' w ha hC => by
    obtain ⟨F, i1, i2, i3, i4, es, c, seen, i5, i6, i7, i8, i9, i10⟩ := hC.get hp
    obtain ⟨sn, en, rfl, hen, hk, hv⟩ := i10 _ rfl
    unfold Oper.wp
    have : (execOp a'.eval o).run P w = .ok (.value (.tuple #[KO.val a, v])) w := by
      simp [execOp, ho, ha.eval hx, run_entry_at w r g c sn es c en i6 i5 hen i8.1, hk, hv]
    rw [this]
    exact ⟨St w0 F0 L, _, hC, fun _ _ h => h, by rw [hdst]; exact ha.put hd _, h⟩)
end
end
/-! ### What maps tell, place by place -/
section
variable {A : Type} {KO : KeyOf A}
theorem dec_true (KO : KeyOf A) {a b : A} (h : a = b) : @decide (a = b) (KO.dec a b) = true := @decide_eq_true _ (KO.dec a b) h
theorem dec_false (KO : KeyOf A) {a b : A} (h : a ≠ b) : ¬ @decide (a = b) (KO.dec a b) = true := fun e => h (@of_decide_eq_true _ (KO.dec a b) e)
theorem mget_none' : ∀ {m : List (A × Value)} {a : A}, a ∉ m.map (·.1) → mget KO m a = none
  | [], _, _ => rfl
  | (b, u) :: m, a, h => by
    rw [List.map_cons, List.mem_cons, not_or] at h
    rw [mget, if_neg (dec_false KO h.1), mget_none' h.2]
theorem mget_at : ∀ {m : List (A × Value)} {k : Nat} {a : A} {v : Value}, (m.map (·.1)).Nodup → m[k]? = some (a, v) → mget KO m a = some v
  | [], _, _, _, _, h => by cases h
  | (b, u) :: m, 0, a, v, _, h => by
    injection h with h
    injection h with e1 e2
    subst e1 e2
    rw [mget, if_pos (dec_true KO rfl)]
  | (b, u) :: m, k + 1, a, v, hn, h => by
    rw [List.map_cons, List.nodup_cons] at hn
    have h2 : m[k]? = some (a, v) := by simpa using h
    have hne : a ≠ b := fun e => hn.1 (by rw [← e]; exact List.mem_map.2 ⟨(a, v), List.mem_iff_getElem?.2 ⟨k, h2⟩, rfl⟩)
    rw [mget, if_neg (dec_false KO hne), mget_at hn.2 h2]
theorem mdel_none' : ∀ {m : List (A × Value)} {a : A}, a ∉ m.map (·.1) → mdel KO m a = m
  | [], _, _ => rfl
  | (b, u) :: m, a, h => by
    rw [List.map_cons, List.mem_cons, not_or] at h
    rw [mdel, if_neg (dec_false KO h.1), mdel_none' h.2]
theorem mdel_at : ∀ {m : List (A × Value)} {k : Nat} {a : A} {v : Value}, (m.map (·.1)).Nodup → m[k]? = some (a, v) → mdel KO m a = m.eraseIdx k
  | [], _, _, _, _, h => by cases h
  | (b, u) :: m, 0, a, v, _, h => by
    injection h with h
    injection h with e1 e2
    subst e1 e2
    rw [mdel, if_pos (dec_true KO rfl), List.eraseIdx_cons_zero]
  | (b, u) :: m, k + 1, a, v, hn, h => by
    rw [List.map_cons, List.nodup_cons] at hn
    have h2 : m[k]? = some (a, v) := by simpa using h
    have hne : a ≠ b := fun e => hn.1 (by rw [← e]; exact List.mem_map.2 ⟨(a, v), List.mem_iff_getElem?.2 ⟨k, h2⟩, rfl⟩)
    rw [mdel, if_neg (dec_false KO hne), mdel_at hn.2 h2, List.eraseIdx_cons_succ]
theorem mset_new' : ∀ {m : List (A × Value)} {a : A} {v : Value}, a ∉ m.map (·.1) → mset KO m a v = m ++ [(a, v)]
  | [], _, _, _ => rfl
  | (b, u) :: m, a, v, h => by
    rw [List.map_cons, List.mem_cons, not_or] at h
    rw [mset, if_neg (dec_false KO h.1), mset_new' h.2]
    rfl
end
end Go.Proofs.Ytbelfaoolnijiaa
