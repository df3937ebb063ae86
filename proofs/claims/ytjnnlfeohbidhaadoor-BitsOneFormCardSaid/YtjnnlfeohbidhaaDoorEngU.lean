import Derived.Test.YtjnnlfeohbidhaaDoorEngT
namespace Go.Proofs.YtjnnlfeohbidhaaDoor
open Go

/-! ### Lists that were handed out: they may share arrays, and read as they should -/
section
variable {X : Type} {f : Nat → X} {k n m i : Nat}
def Seq (f : Nat → X) (k : Nat) : List X := (List.range k).map f
theorem Seq.len : (Seq f k).length = k := by simp [Seq]
theorem Seq.get (h : i < k) : (Seq f k)[i]? = some (f i) := by simp [Seq, h]
theorem Seq.get_some {x : X} (h : (Seq f k)[i]? = some x) : i < k ∧ x = f i := by
  have h1 := (List.getElem?_eq_some_iff.1 h).1
  rw [Seq.len] at h1
  rw [Seq.get h1] at h
  exact ⟨h1, (Option.some.inj h).symm⟩
theorem Seq.zero : Seq f 0 = [] := rfl
theorem Seq.succ : Seq f (k + 1) = Seq f k ++ [f k] := by simp [Seq, List.range_succ]
theorem Seq.add : Seq f (n + m) = Seq f n ++ Seq (fun i => f (n + i)) m := by
  induction m with
  | zero => simp [Seq.zero]
  | succ m ih => rw [← Nat.add_assoc, Seq.succ, ih, Seq.succ, List.append_assoc]
theorem Seq.take (h : n ≤ k) : (Seq f k).take n = Seq f n := by
  obtain ⟨d, rfl⟩ := Nat.exists_eq_add_of_le h
  rw [Seq.add, List.take_append_of_le_length (by rw [Seq.len]; exact Nat.le_refl _), List.take_of_length_le (by rw [Seq.len]; exact Nat.le_refl _)]
theorem Seq.const {x : X} : Seq (fun _ => x) k = List.replicate k x := by
  induction k with
  | zero => rfl
  | succ k ih => rw [Seq.succ, ih, List.replicate_succ']
theorem Seq.congr {g : Nat → X} (h : ∀ i, i < k → f i = g i) : Seq f k = Seq g k := by
  unfold Seq
  exact List.map_congr_left (fun i hi => h i (List.mem_range.1 hi))
end
variable {X : Type}
theorem enc_len (E : Elem X) : ∀ (l : List X), (l.flatMap E.enc).length = l.length * E.sz := by
  intro l
  induction l with
  | nil => simp
  | cons q l ih => simp [ih, E.len, Nat.add_mul, Nat.add_comm]
theorem enc_of (E : Elem X) : ∀ (l : List X) (j : Nat) (u : Value), (l.flatMap E.enc)[j]? = some u → ∃ i q j', l[i]? = some q ∧ (E.enc q)[j']? = some u ∧ j = i * E.sz + j' := by
  intro l
  induction l with
  | nil => intro j u hj; simp at hj
  | cons q l ih =>
    intro j u hj
    rw [List.flatMap_cons] at hj
    rcases Nat.lt_or_ge j (E.enc q).length with hlt | hge
    · rw [List.getElem?_append_left hlt] at hj
      exact ⟨0, q, j, rfl, hj, by simp⟩
    · rw [List.getElem?_append_right hge] at hj
      obtain ⟨i, q', j', h1, h2, h3⟩ := ih _ _ hj
      refine ⟨i + 1, q', j', h1, h2, ?_⟩
      rw [E.len] at h3 hge
      rw [Nat.add_mul]
      omega
theorem enc_at (E : Elem X) (l : List X) (i : Nat) (q : X) (h : l[i]? = some q) (j : Nat) (u : Value) (hj : (E.enc q)[j]? = some u) : (l.flatMap E.enc)[i * E.sz + j]? = some u := by
  have := flat_row E l i q h j u hj
  simpa using this

theorem add_lit (b off j : Nat) : (⟨b, off, none⟩ : Addr).add j = ⟨b, off + j, none⟩ := by
  unfold Addr.add
  split
  · rename_i h0; rw [h0]; rfl
  · rfl

/-- One piece taken apart: what comes of it is put in its place. -/
theorem St.split1 {w0 : World} {F0 : Nat → Prop} {A : Asn} {rest : List Asn} {w : World} (h : St w0 F0 (A :: rest) w) : ∃ F1, A.p w F1 ∧ ∀ w' post, St w F1 post w' → St w0 F0 (post ++ rest) w' := by
  obtain ⟨F, h1, h2, h3⟩ := h
  obtain ⟨F1, F2, s1, s2, s3, s4⟩ := h1.tight
  refine ⟨F1, s1, fun w' post hg => ?_⟩
  obtain ⟨G, g1, g2, g3⟩ := hg
  have t2 := s2.tight
  refine ⟨fun b => G b ∨ (F2 b ∧ b < w.heap.size), g1.join (t2.loc fun b hb => g2.blk b hb.2 fun hb1 => s3 b hb1 hb.1) (fun b hb hc => ?_) (fun _ h => h), ⟨g2.os.trans h2.os, g2.tape.trans h2.tape, g2.output.trans h2.output, Nat.le_trans h2.size g2.size, fun k hk hn => ?_⟩, fun b hb => ?_⟩
  · rcases g3 b hb with h | h
    · exact s3 b h hc.1
    · exact absurd hc.2 (by omega)
  · refine (g2.blk k (Nat.lt_of_lt_of_le hk h2.size) fun hk1 => ?_).trans (h2.blk k hk hn)
    rcases h3 k (s4 k (.inl hk1)).1 with h | h
    · exact hn h
    · omega
  · rcases hb with hb | hb
    · rcases g3 b hb with h | h
      · exact h3 b (s4 b (.inl h)).1
      · exact .inr (Nat.le_trans h2.size h)
    · exact h3 b (s4 b (.inr hb.1)).1
theorem St.map {w0 : World} {F0 : Nat → Prop} {A B : Asn} {L : List Asn} {w : World} (hm : ∀ F, A.p w F → B.p w F) (h : St w0 F0 (A :: L) w) : St w0 F0 (B :: L) w :=
  let ⟨F, ⟨F1, F2, h1, r⟩, rr⟩ := h; ⟨F, ⟨F1, F2, hm _ h1, r⟩, rr⟩
theorem st_one {w w' : World} {A : Asn} {F G : Nat → Prop} (h : A.p w' G) (hb : But w w' F) (hG : ∀ b, G b → F b ∨ w.heap.size ≤ b) : St w F [A] w' :=
  ⟨G, ⟨G, nowhere, h, trivial, fun _ _ h => h.elim, fun _ h => h.elim id False.elim⟩, hb, hG⟩
theorem Row.at {E : Elem X} {T g cap : Nat} {xs : List X} {w : World} {F : Nat → Prop} (h : (Row E T g cap xs).p w F) : (Row E T g cap xs).p w (fun x => x = g) := ⟨fun _ => Iff.rfl, h.2⟩

/-- Arrays into which the slices 'ents' of so many elements reach: each slice reads as the first ones of f. -/
def Pool (E : Elem X) (T : Nat) (f : Nat → X) (ents : List (Value × Nat)) : Asn where
  p w F := ∃ cf kf : Nat → Nat, (∀ g, F g → (Row E T g (cf g) (Seq f (kf g))).p w (fun x => x = g)) ∧ ∀ q ∈ ents, (q.1 = .slice none 0 0 ∧ q.2 = 0) ∨ ∃ g, F g ∧ q.1 = .slice (some ⟨g, 0, none⟩) q.2 (cf g) ∧ q.2 ≤ kf g
  lt := fun ⟨cf, kf, h, _⟩ b hb => (Row E T b (cf b) (Seq _ (kf b))).lt (h b hb) b rfl
  loc := fun ⟨cf, kf, h, r⟩ hh => ⟨cf, kf, fun g hg => (Row E T g (cf g) (Seq _ (kf g))).loc (h g hg) (fun b hb => by subst hb; exact hh _ hg), r⟩
theorem St.pool {E : Elem X} {T n : Nat} {f : Nat → X} {v : Value} {w0 : World} {F0 : Nat → Prop} {L : List Asn} {w : World} (h : St w0 F0 (RowV E T v (Seq f n) :: L) w) : St w0 F0 (Pool E T f [(v, n)] :: L) w :=
  h.map fun F hp => by
    rcases hp with ⟨rfl, h2, h3⟩ | ⟨g, cap, rfl, h1⟩
    · have : n = 0 := by have := congrArg List.length h2; rwa [Seq.len] at this
      subst this
      exact ⟨fun _ => 0, fun _ => 0, fun g hg => (h3 g hg).elim, fun q hq => by
        rw [List.mem_singleton.1 hq]
        exact .inl ⟨rfl, rfl⟩⟩
    · refine ⟨fun _ => cap, fun _ => n, fun g' hg => ?_, fun q hq => ?_⟩
      · obtain rfl := (h1.1 g').1 hg
        exact Row.at h1
      · rw [List.mem_singleton.1 hq]
        exact .inr ⟨g, (h1.1 g).2 rfl, by rw [Seq.len], Nat.le_refl _⟩

/-- v reads as xs, in blocks of F. -/
def InF (E : Elem X) (w : World) (F : Nat → Prop) (v : Value) (xs : List X) : Prop :=
  ∃ a cap, v = .slice a xs.length cap ∧ xs.length ≤ cap ∧ cap ≤ maxLen ∧ (xs = [] ∨ ∃ g off, F g ∧ a = some ⟨g, off, none⟩ ∧ ∀ i x, xs[i]? = some x → ∀ j u, (E.enc x)[j]? = some u → w.cell? ⟨g, off + i * E.sz + j, none⟩ = some u)
theorem InF.rd {E : Elem X} {w : World} {F : Nat → Prop} {v : Value} {xs : List X} (h : InF E w F v xs) : Rd E w v xs :=
  let ⟨a, cap, h1, h2, h3, h4⟩ := h
  ⟨a, cap, h1, h2, h3, h4.imp id fun ⟨g, off, _, e, hc⟩ => ⟨g, off, e, hc⟩⟩
theorem InF.mono {E : Elem X} {w : World} {F G : Nat → Prop} {v : Value} {xs : List X} (h : InF E w F v xs) (hF : ∀ b, F b → G b) : InF E w G v xs :=
  let ⟨a, cap, h1, h2, h3, h4⟩ := h
  ⟨a, cap, h1, h2, h3, h4.imp id fun ⟨g, off, hg, e, hc⟩ => ⟨g, off, hF g hg, e, hc⟩⟩
/-- The slices 'ents' read so. -/
def Holds (E : Elem X) (ents : List (Value × List X)) : Asn where
  p w F := (∀ q ∈ ents, InF E w F q.1 q.2) ∧ ∀ b, F b → b < w.heap.size
  lt := fun h => h.2
  loc := fun {w w' F} ⟨h1, h2⟩ hh => ⟨fun q hq => by
      obtain ⟨a, cap, g1, g2, g3, g4⟩ := h1 q hq
      refine ⟨a, cap, g1, g2, g3, g4.imp id ?_⟩
      rintro ⟨g, off, hg, e, hc⟩
      refine ⟨g, off, hg, e, fun i x hx j u hu => ?_⟩
      have := hc i x hx j u hu
      unfold World.cell? at this ⊢
      dsimp only at this ⊢
      rw [hh g hg]
      exact this, fun b hb => by
      have e := hh b hb
      rw [Array.getElem?_eq_getElem (h2 b hb)] at e
      exact (Array.getElem?_eq_some_iff.1 e).1⟩
section
variable {E : Elem X} {T : Nat} {f : Nat → X} {w0 : World} {F0 : Nat → Prop} {L L' : List Asn} {w : World}
theorem St.holds_nil (h : St w0 F0 L w) : St w0 F0 (Holds E [] :: L) w := by
  obtain ⟨F, h1, r⟩ := h
  exact ⟨F, ⟨nowhere, F, ⟨(fun q hq => by cases hq), fun _ h => h.elim⟩, h1, fun _ h => h.elim, fun _ h => h.elim False.elim id⟩, r⟩
theorem St.pool_holds {ents : List (Value × Nat)} (h : St w0 F0 (Pool E T f ents :: L) w) : St w0 F0 (Holds E (ents.map fun q => (q.1, Seq f q.2)) :: L) w :=
  h.map fun F hp => by
    refine ⟨fun q hq => ?_, (Pool E T f ents).lt hp⟩
    obtain ⟨cf, kf, h1, h2⟩ := hp
    obtain ⟨q0, hq0, rfl⟩ := List.mem_map.1 hq
    rcases h2 q0 hq0 with ⟨e1, e2⟩ | ⟨g, hg, e1, e2⟩
    · dsimp only
      rw [e1, e2]
      exact ⟨none, 0, rfl, Nat.le_refl _, by decide, .inl rfl⟩
    · obtain ⟨_, cur, hb, h3, h4, h5, h6⟩ := h1 g hg
      rw [Seq.len] at h3
      refine ⟨some ⟨g, 0, none⟩, cf g, by rw [Seq.len]; exact e1, by rw [Seq.len]; omega, h4, .inr ⟨g, 0, hg, rfl, fun i x hx j u hu => ?_⟩⟩
      obtain ⟨hi, rfl⟩ := Seq.get_some hx
      rw [blk_cell hb, Nat.zero_add]
      exact h6 i _ (Seq.get (by omega)) j u hu
theorem St.holds_join {a b : List (Value × List X)} (h : St w0 F0 (Holds E a :: Holds E b :: L) w) : St w0 F0 (Holds E (a ++ b) :: L) w := by
  obtain ⟨F, ⟨F1, F2, h1, ⟨G1, G2, h2, h3, g3, g4⟩, f3, f4⟩, r⟩ := h
  refine ⟨F, ⟨fun x => F1 x ∨ G1 x, G2, ⟨fun q hq => ?_, fun b hb => hb.elim (h1.2 b) (h2.2 b)⟩, h3, fun x hx hg => ?_, fun x hx => ?_⟩, r⟩
  · rcases List.mem_append.1 hq with hq | hq
    · exact (h1.1 q hq).mono fun _ => .inl
    · exact (h2.1 q hq).mono fun _ => .inr
  · rcases hx with hx | hx
    · exact f3 x hx (g4 x (.inr hg))
    · exact g3 x hx hg
  · rcases hx with (hx | hx) | hx
    · exact f4 x (.inl hx)
    · exact f4 x (.inr (g4 x (.inl hx)))
    · exact f4 x (.inr (g4 x (.inr hx)))
theorem St.rdHolds {ents : List (Value × List X)} {v : Value} {xs : List X} (h : St w0 F0 L w) (hp : Pull L (Holds E ents) L') (hm : (v, xs) ∈ ents) : Rd E w v xs := by
  obtain ⟨F, h1, _⟩ := h.get hp
  exact (h1 _ hm).rd
/-- A row given up for reading. -/
theorem St.rowV_holds {v : Value} {xs : List X} (h : St w0 F0 (RowV E T v xs :: L) w) : St w0 F0 (Holds E [(v, xs)] :: L) w :=
  h.map fun F hp => by
    refine ⟨fun q hq => ?_, (RowV E T v xs).lt hp⟩
    rw [List.mem_singleton.1 hq]
    rcases hp with ⟨rfl, rfl, h3⟩ | ⟨g, cap, rfl, h1, cur, hb, h3, h4, h5, h6⟩
    · exact ⟨none, 0, rfl, Nat.le_refl _, by decide, .inl rfl⟩
    · exact ⟨_, cap, rfl, h3, h4, .inr ⟨g, 0, (h1 g).2 rfl, rfl, fun i x hx j u hu => by rw [blk_cell hb, Nat.zero_add]; exact h6 i x hx j u hu⟩⟩
end
section
variable {P : Program} {n : Nat} {ds : List Deferred} {ops : Array Oper} {ev wk : Nat → Bool} {K : Env → (World → Prop) → Prop} {r : List Oper} {o : Oper} {k : Nat} {e : Env} {w0 : World} {F0 : Nat → Prop} {L L' : List Asn} {E : Elem X} {T : Nat}
/-- A load out of a list that was handed out. -/
theorem h_holdLoad {ents : List (Value × List X)} {t g off i j len cap : Nat} {xs : List X} {x : Operand} {d : TypeDesc} {y : X} {v : Value} (ho : o.op = .load t x) (hp : Pull L (Holds E ents) L') (hm : (.slice (some ⟨g, off, none⟩) len cap, xs) ∈ ents) (hx : e.op x = some (.pointer (some ⟨g, off + i * E.sz + j, none⟩))) (hu : P.underlying t = some d) (hna : aggD d = false)
    (hi : xs[i]? = some y) (hv : nth (E.enc y) j = some v) {dd : Nat} (hdst : o.dst = some dd) (hd : okD n (some dd) = true) (h : HX P n ds ops ev wk K r (k + 1) ((dd, v) :: e) (St w0 F0 L)) : HX1 P n ds ops ev wk K o r k e (St w0 F0 L) :=
  hx1_read (by rw [ho]; rfl) (by rw [ho]; rfl) hdst hd (fun a w ha hC => by
    obtain ⟨a0, c0, e1, _, _, h4⟩ := hC.rdHolds hp hm
    injection e1 with e1 _ _
    rcases h4 with h4 | ⟨g', off', e2, hc⟩
    · rw [h4] at hi; cases hi
    · rw [← e1] at e2
      injection e2 with e2
      injection e2 with e2 e3
      subst e2 e3
      simp [execOp, ho, ha.eval hx, run_load1 hu hna (hc i y hi j v (by rw [← nth_eq]; exact hv))]) h
theorem h_holdLoad0 {ents : List (Value × List X)} {t g off i len cap : Nat} {xs : List X} {x : Operand} {d : TypeDesc} {y : X} {v : Value} (ho : o.op = .load t x) (hp : Pull L (Holds E ents) L') (hm : (.slice (some ⟨g, off, none⟩) len cap, xs) ∈ ents) (hx : e.op x = some (.pointer (some ⟨g, off + i * E.sz, none⟩))) (hu : P.underlying t = some d) (hna : aggD d = false)
    (hi : xs[i]? = some y) (hv : nth (E.enc y) 0 = some v) {dd : Nat} (hdst : o.dst = some dd) (hd : okD n (some dd) = true) (h : HX P n ds ops ev wk K r (k + 1) ((dd, v) :: e) (St w0 F0 L)) : HX1 P n ds ops ev wk K o r k e (St w0 F0 L) :=
  h_holdLoad (j := 0) ho hp hm hx hu hna hi hv hdst hd h
/-- What is known of a slice that was handed out. -/
theorem St.hold_shape {ents : List (Value × List X)} {v : Value} {xs : List X} {w : World} (h : St w0 F0 L w) (hp : Pull L (Holds E ents) L') (hm : (v, xs) ∈ ents) : ∃ a cap, v = .slice a xs.length cap ∧ xs.length ≤ cap ∧ cap ≤ maxLen ∧ (xs = [] ∨ ∃ g off, a = some ⟨g, off, none⟩) := by
  obtain ⟨a, cap, h1, h2, h3, h4⟩ := h.rdHolds hp hm
  exact ⟨a, cap, h1, h2, h3, h4.imp id fun ⟨g, off, e, _⟩ => ⟨g, off, e⟩⟩

/-- append(s, ..), s one of the pool, with what f says: one more of the pool. -/
theorem h_poolAppend {f : Nat → X} {ents : List (Value × Nat)} {x y : Operand} {t b l m c by_ : Nat} {zv : Value} {v : Value} {cs : Array Value} {bt : Nat} {fz : Nat × Nat} (hev : ev k = true) (hwk : wk k = false)
    (ho : o.op = .call { callee := .builtin .append, args := #[x, y], argTypes := #[t, t] }) (hx : e.op x = some v) (hy : e.op y = some (.slice (some ⟨b, 0, none⟩) m c)) (hu : P.underlying t = some (.slice T)) (hi : ∃ i, P.info? T = some i ∧ i.size = E.sz ∧ i.bytes = by_ ∧ i.zero = some zv) (hzv : zv.cells.size = E.sz)
    (hp : Pulls L [Pool E T f ents, Blk b (.cells cs bt fz)] L') (hmem : (v, l) ∈ ents) (hm0 : Nat.beq m 0 = false) (hcs : ∀ i, i < m → ∀ j u, (E.enc (f (l + i)))[j]? = some u → cs[i * E.sz + j]? = some u)
    (h63 : l + m ≤ maxLen) (hbytes : (l + m) * by_ ≤ 140737488355328) {dd : Nat} (hdst : o.dst = some dd) (hd : okD n (some dd) = true)
    (h : ∀ v', HX P n ds ops ev wk K r (k + 1) ((dd, v') :: e) (St w0 F0 (Pool E T f (ents ++ [(v', l + m)]) :: Blk b (.cells cs bt fz) :: L'))) : HX1 P n ds ops ev wk K o r k e (St w0 F0 L) :=
  hx1_event hev (fun a w ha hC => by
    have hC' : St w0 F0 (Pool E T f ents :: (Blk b (.cells cs bt fz) :: L')) w := hC.perm hp.perm
    have hblk : w.heap[b]? = some (.cells cs bt fz) := by
      obtain ⟨F, _, hb⟩ := hC'.get (.tail .head)
      exact hb
    obtain ⟨F1, hpool, hput⟩ := hC'.split1
    have hm1 : m ≠ 0 := by intro e0; subst e0; cases hm0
    obtain ⟨i, i1, i2, i3, i4⟩ := hi
    obtain ⟨news, hnews⟩ : ∃ news, news = (Seq (fun i => f (l + i)) m).flatMap E.enc := ⟨_, rfl⟩
    have hnl : news.length = m * E.sz := by rw [hnews, enc_len, Seq.len]
    have hat : ∀ i, i < m → ∀ j u, (E.enc (f (l + i)))[j]? = some u → news[i * E.sz + j]? = some u := fun i hi j u hj => by
      rw [hnews]; exact enc_at E _ i _ (Seq.get hi) j u hj
    have hnc : ∀ j u, news[j]? = some u → w.cell? ((⟨b, 0, none⟩ : Addr).add j) = some u := fun j u hj => by
      rw [hnews] at hj
      obtain ⟨i, q, j', h1, h2, rfl⟩ := enc_of E _ _ _ hj
      obtain ⟨h3, rfl⟩ := Seq.get_some h1
      rw [add_lit, blk_cell hblk, Nat.zero_add]
      exact hcs i h3 j' u h2
    have h1c : ∀ u ∈ news, u.oneCell' = true := fun u hu => by
      rw [hnews] at hu
      obtain ⟨q, _, hq⟩ := List.mem_flatMap.1 hu
      exact E.one q u hq
    suffices hs : ∃ v' w', (Builtin.append_ #[t, t] o.type #[v, .slice (some ⟨b, 0, none⟩) m c]).run P w = .ok v' w' ∧ St w F1 [Pool E T f (ents ++ [(v', l + m)])] w' by
      obtain ⟨v', w', hrun, hst⟩ := hs
      unfold Oper.wp
      have : (execOp a.eval o).run P w = .ok (.value v') w' := by
        simp [execOp, ho, resolve, invoke, builtin, ha.eval hx, ha.eval hy, hrun]
      rw [this]
      exact ⟨_, _, hput w' _ hst, (fun h => by rw [hwk] at h; cases h), by rw [hdst]; exact ha.put hd v', h v'⟩
    have hF1 := (Pool E T f ents).lt hpool
    obtain ⟨cf, kf, hrows, hents⟩ := hpool
    rcases hents _ hmem with ⟨e1, e2⟩ | ⟨g, hg, e1, hle⟩
    · dsimp only at e1 e2
      subst e1 e2
      obtain ⟨v', w', hrun, hown', hgr, hnil⟩ := run_append_own (P := P) (w := w) 0 t o.type T i zv E.sz by_ hu i1 i4 i2 i3 hzv E.pos (.slice none 0 0) 0 [] (World.ownsRow_nil _ _ _ _) ⟨b, 0, none⟩ m c news hnl hnc h1c h63 hbytes (Nat.zero_le _)
      refine ⟨v', w', hrun, ?_⟩
      rw [Nat.zero_add, List.nil_append] at hown'
      have hown2 : w'.ownsRow 0 T E.sz v' (Seq f m).length news := by rw [Seq.len]; exact hown'
      have hrow := RowV.of_owns (E := E) (T := T) (xs := Seq f m) hown2 (fun i q hq j u hj => by
        obtain ⟨h3, rfl⟩ := Seq.get_some hq
        exact hat i h3 j u (by rw [Nat.zero_add]; exact hj))
      have hblk2 := append_block (P := P) hu i1 i4 i2 i3 hzv E.pos (World.ownsRow_nil _ _ _ _) hnl hnc h1c h63 hbytes hrun
      rcases hrow with ⟨e3, _, _⟩ | ⟨g, cap, rfl, hr⟩
      · exact absurd (hnil.1 e3).2 hm1
      · have hnew : w.heap.size ≤ g := by
          rcases hblk2 g rfl with h | h
          · cases h
          · exact h
        have hbut : But w w' nowhere := ⟨hgr.os, hgr.tape, hgr.output, hgr.size, fun j hj _ => hgr.block j hj (fun e => by cases e)⟩
        refine st_one (G := fun x => F1 x ∨ x = g) ?_ ⟨hbut.os, hbut.tape, hbut.output, hbut.size, fun j hj _ => hbut.blk j hj id⟩ (fun x hx => hx.imp id fun e => by omega)
        refine ⟨fun x => if x = g then cap else cf x, fun x => if x = g then m else kf x, fun x hx => ?_, fun q hq => ?_⟩
        · dsimp only
          by_cases hxg : x = g
          · subst hxg
            rw [if_pos rfl, if_pos rfl]
            exact Row.at hr
          · rw [if_neg hxg, if_neg hxg]
            have hxF := hx.resolve_right hxg
            exact (Row E T x (cf x) (Seq f (kf x))).loc (hrows x hxF) (fun y hy => by subst hy; exact hbut.blk y (hF1 y hxF) id)
        · rcases List.mem_append.1 hq with hq | hq
          · refine (hents q hq).imp id ?_
            rintro ⟨g', h1, h2, h3⟩
            have hne : g' ≠ g := fun e0 => by have := hF1 g' h1; omega
            exact ⟨g', .inl h1, by dsimp only; rw [if_neg hne]; exact h2, by dsimp only; rw [if_neg hne]; exact h3⟩
          · rw [List.mem_singleton.1 hq]
            refine .inr ⟨g, .inr rfl, ?_, ?_⟩
            · dsimp only; rw [if_pos rfl, Seq.len, Nat.zero_add]
            · dsimp only; rw [if_pos rfl]; omega
    · dsimp only at e1 hle
      obtain ⟨_, cur, hb, h3, h4, h5, h6⟩ := id (hrows g hg)
      rw [Seq.len] at h3
      subst e1
      have hgs := hF1 g hg
      by_cases hroom : l + m ≤ cf g
      · have hfit : l * i.size + news.length ≤ cur.size := by rw [hnl, i2, h5, ← Nat.add_mul]; exact Nat.mul_le_mul_right _ hroom
        have hrun := run_append_room (P := P) w t o.type T i hu i1 g l (cf g) cur hb ⟨b, 0, none⟩ m c news (by rw [hnl, i2]) hnc h1c hroom hfit
        refine ⟨_, _, hrun, ?_⟩
        have hcur : cur.toList.length = cf g * E.sz := by simpa using h5
        have hll : l * E.sz + m * E.sz ≤ cf g * E.sz := by rw [← Nat.add_mul]; exact Nat.mul_le_mul_right _ hroom
        refine st_one (G := F1) ?_ ⟨rfl, rfl, rfl, by simp, fun j hj hn => setRow_other _ _ _ _ (fun e0 => hn (by rw [e0]; exact hg))⟩ (fun x hx => .inl hx)
        refine ⟨cf, fun x => if x = g then max (kf g) (l + m) else kf x, fun x hx => ?_, fun q hq => ?_⟩
        · dsimp only
          by_cases hxg : x = g
          · subst hxg
            rw [if_pos rfl]
            refine ⟨fun _ => Iff.rfl, _, setRow_heap _ _ _ _ _ _ hb, by rw [Seq.len]; omega, h4, ?_, fun i' q hq j u hj => ?_⟩
            · simp only [List.size_toArray, List.length_append, List.length_take, List.length_drop, hnl, i2, hcur]
              omega
            · obtain ⟨hi', rfl⟩ := Seq.get_some hq
              have hjs : j < E.sz := by
                have := (List.getElem?_eq_some_iff.1 hj).1
                rwa [E.len] at this
              simp only [List.getElem?_toArray, i2]
              rw [List.append_assoc]
              have htl : (cur.toList.take (l * E.sz)).length = l * E.sz := by rw [List.length_take, hcur]; omega
              by_cases c1 : i' < l
              · have := row_lt (sz := E.sz) c1 hjs
                rw [List.getElem?_append_left (by rw [htl]; exact this), List.getElem?_take_of_lt this]
                simpa using h6 i' _ (Seq.get (by omega)) j u hj
              · rw [List.getElem?_append_right (by rw [htl]; have := Nat.mul_le_mul_right E.sz (Nat.le_of_not_lt c1); omega), htl]
                obtain ⟨d, rfl⟩ := Nat.exists_eq_add_of_le (Nat.le_of_not_lt c1)
                rw [show (l + d) * E.sz + j - l * E.sz = d * E.sz + j by rw [Nat.add_mul]; omega]
                by_cases c2 : d < m
                · rw [List.getElem?_append_left (by rw [hnl]; exact row_lt c2 hjs)]
                  exact hat d c2 j u hj
                · have hmd := Nat.mul_le_mul_right E.sz (Nat.le_of_not_lt c2)
                  rw [List.getElem?_append_right (by rw [hnl]; omega), hnl, List.getElem?_drop]
                  rw [show l * E.sz + m * E.sz + (d * E.sz + j - m * E.sz) = (l + d) * E.sz + j by rw [Nat.add_mul]; omega]
                  simpa using h6 (l + d) _ (Seq.get (by omega)) j u hj
          · rw [if_neg hxg]
            exact (Row E T x (cf x) (Seq f (kf x))).loc (hrows x hx) (fun y hy => by subst hy; exact setRow_other _ _ _ _ hxg)
        · rcases List.mem_append.1 hq with hq | hq
          · refine (hents q hq).imp id ?_
            rintro ⟨g', h1, h2, h3⟩
            refine ⟨g', h1, h2, ?_⟩
            dsimp only
            split
            · rename_i e0
              subst e0
              omega
            · exact h3
          · rw [List.mem_singleton.1 hq]
            exact .inr ⟨g, hg, rfl, by dsimp only; rw [if_pos rfl]; omega⟩
      · obtain ⟨olds, hold⟩ : ∃ olds, olds = (Seq f l).flatMap E.enc := ⟨_, rfl⟩
        have hol : olds.length = l * E.sz := by rw [hold, enc_len, Seq.len]
        have holds : ∀ j u, olds[j]? = some u → w.cell? ((⟨g, 0, none⟩ : Addr).add j) = some u := fun j u hj => by
          rw [hold] at hj
          obtain ⟨i', q, j', g1, g2, rfl⟩ := enc_of E _ _ _ hj
          obtain ⟨g3, rfl⟩ := Seq.get_some g1
          rw [add_lit, blk_cell hb, Nat.zero_add]
          exact h6 i' _ (Seq.get (by omega)) j' u g2
        have hr := run_append_grow (P := P) w t o.type T i zv hu i1 i4 ⟨g, 0, none⟩ l (cf g) olds (by rw [hol, i2]) holds ⟨b, 0, none⟩ m c news (by rw [hnl, i2]) hnc (by omega) (by simp only [maxLen] at h63; omega) (growslice_fits (by omega) (by rw [i3]; exact hbytes))
        refine ⟨_, _, hr, ?_⟩
        have hbut : But w (w.drew.alloc (.cells (olds.toArray ++ news.toArray ++ Builtin.zeroCells zv.cells (grownCap w (l + m) (cf g) T - (l + m))) T)) nowhere := ⟨rfl, rfl, rfl, by simp, fun j hj _ => heap_alloc_old w.drew _ hj⟩
        have hge := grownCap_ge w (l + m) (cf g) T
        have hcm := grownCap_le_maxLen w (l + m) (cf g) T h63
        refine st_one (G := fun x => F1 x ∨ x = w.heap.size) ?_ ⟨hbut.os, hbut.tape, hbut.output, hbut.size, fun j hj _ => hbut.blk j hj id⟩ (fun x hx => hx.imp id fun e => by omega)
        refine ⟨fun x => if x = w.heap.size then grownCap w (l + m) (cf g) T else cf x, fun x => if x = w.heap.size then l + m else kf x, fun x hx => ?_, fun q hq => ?_⟩
        · dsimp only
          by_cases hxg : x = w.heap.size
          · subst hxg
            rw [if_pos rfl, if_pos rfl]
            refine ⟨fun _ => Iff.rfl, _, heap_alloc_new w.drew _, by rw [Seq.len]; exact hge, hcm, ?_, fun i' q hq j u hj => ?_⟩
            · simp only [Array.size_append, List.size_toArray, size_zeroCells, hzv, hol, hnl, ← Nat.add_mul]
              congr 1
              omega
            · obtain ⟨hi', rfl⟩ := Seq.get_some hq
              have hjs : j < E.sz := by
                have := (List.getElem?_eq_some_iff.1 hj).1
                rwa [E.len] at this
              have hlt : i' * E.sz + j < olds.length + news.length := by rw [hol, hnl, ← Nat.add_mul]; exact row_lt hi' hjs
              rw [Array.getElem?_append_left (by simpa using hlt)]
              rw [show olds.toArray ++ news.toArray = (olds ++ news).toArray by simp, List.getElem?_toArray]
              by_cases c1 : i' < l
              · rw [List.getElem?_append_left (by rw [hol]; exact row_lt c1 hjs), hold]
                exact enc_at E _ i' _ (Seq.get c1) j u hj
              · obtain ⟨d, rfl⟩ := Nat.exists_eq_add_of_le (Nat.le_of_not_lt c1)
                rw [List.getElem?_append_right (by rw [hol, Nat.add_mul]; omega), hol, show (l + d) * E.sz + j - l * E.sz = d * E.sz + j by rw [Nat.add_mul]; omega]
                exact hat d (by omega) j u hj
          · rw [if_neg hxg, if_neg hxg]
            have hxF := hx.resolve_right hxg
            exact (Row E T x (cf x) (Seq f (kf x))).loc (hrows x hxF) (fun y hy => by subst hy; exact hbut.blk y (hF1 y hxF) id)
        · rcases List.mem_append.1 hq with hq | hq
          · refine (hents q hq).imp id ?_
            rintro ⟨g', h1, h2, h3⟩
            have hne : g' ≠ w.heap.size := fun e0 => by have := hF1 g' h1; omega
            exact ⟨g', .inl h1, by dsimp only; rw [if_neg hne]; exact h2, by dsimp only; rw [if_neg hne]; exact h3⟩
          · rw [List.mem_singleton.1 hq]
            refine .inr ⟨w.heap.size, .inr rfl, ?_, ?_⟩
            · dsimp only; rw [if_pos rfl]
            · dsimp only; rw [if_pos rfl]; exact Nat.le_refl _)
theorem St.pool_sub {E : Elem X} {T : Nat} {f : Nat → X} {ents ents' : List (Value × Nat)} {w0 : World} {F0 : Nat → Prop} {L : List Asn} {w : World} (hs : ∀ q ∈ ents', q ∈ ents) (h : St w0 F0 (Pool E T f ents :: L) w) : St w0 F0 (Pool E T f ents' :: L) w :=
  h.map (A := Pool E T f ents) (B := Pool E T f ents') fun F hp => by
    obtain ⟨cf, kf, h1, h2⟩ := hp
    exact ⟨cf, kf, h1, fun q hq => h2 q (hs q hq)⟩
theorem pool_cs (E : Elem X) {f : Nat → X} {l m : Nat} (ys : List X) (h : ∀ i, i < m → ys[i]? = some (f (l + i))) : ∀ i, i < m → ∀ j u, (E.enc (f (l + i)))[j]? = some u → (ys.flatMap E.enc).toArray[i * E.sz + j]? = some u :=
  fun i hi j u hj => flat_row E ys i _ (h i hi) j u hj
theorem pool_const (E : Elem X) (x : X) (m : Nat) : ∀ i, i < m → ∀ j u, (E.enc x)[j]? = some u → ((List.replicate m x).flatMap E.enc).toArray[i * E.sz + j]? = some u :=
  fun i hi j u hj => flat_row E (List.replicate m x) i x (by simp [hi]) j u hj
section
variable {P : Program} {n : Nat} {ds : List Deferred} {ops : Array Oper} {ev wk : Nat → Bool} {K : Env → (World → Prop) → Prop} {r : List Oper} {o : Oper} {k : Nat} {e : Env} {w0 : World} {F0 : Nat → Prop} {L L' : List Asn} {E : Elem X} {T g cap : Nat} {xs : List X}
/-- An element of one cell. -/
theorem h_rowLoad1 {t i : Nat} {x : Operand} {d : TypeDesc} {y : X} {v : Value} (ho : o.op = .load t x) (hp : Pull L (Row E T g cap xs) L') (hx : e.op x = some (.pointer (some ⟨g, i * E.sz, none⟩))) (hu : P.underlying t = some d) (hna : aggD d = false)
    (hi : xs[i]? = some y) (hv : nth (E.enc y) 0 = some v) {dd : Nat} (hdst : o.dst = some dd) (hd : okD n (some dd) = true) (h : HX P n ds ops ev wk K r (k + 1) ((dd, v) :: e) (St w0 F0 L)) : HX1 P n ds ops ev wk K o r k e (St w0 F0 L) :=
  h_rowLoad (j := 0) ho hp hx hu hna hi hv hdst hd h
end
/-- The first i of a list have become x. -/
def filled (x : X) (xs : List X) (i : Nat) : List X := List.replicate i x ++ xs.drop i
theorem filled_len {x : X} {xs : List X} {i : Nat} (h : i ≤ xs.length) : (filled x xs i).length = xs.length := by simp [filled]; omega
theorem filled_get {x : X} {xs : List X} {i : Nat} (h : i < xs.length) : (filled x xs i)[i]? = some xs[i] := by
  unfold filled
  rw [List.getElem?_append_right (by simp)]
  simp [h]
theorem filled_set {x : X} {xs : List X} {i : Nat} (h : i < xs.length) : (filled x xs i).set i x = filled x xs (i + 1) := by
  apply List.ext_getElem?
  intro j
  rw [List.getElem?_set]
  split
  · rename_i e
    subst e
    rw [if_pos (by rw [filled_len (by omega)]; omega)]
    unfold filled
    rw [List.getElem?_append_left (by simp)]
    simp
  · rename_i e
    unfold filled
    rcases Nat.lt_or_ge j i with hlt | hge
    · rw [List.getElem?_append_left (by simpa using hlt), List.getElem?_append_left (by simp; omega)]
      simp [hlt, show j < i + 1 by omega]
    · rw [List.getElem?_append_right (by simpa using hge), List.getElem?_append_right (by simp; omega)]
      simp
      congr 1
      omega
theorem filled_zero {x : X} {xs : List X} : filled x xs 0 = xs := rfl
theorem filled_all {x : X} {xs : List X} {i : Nat} (h : xs.length ≤ i) (h2 : i ≤ xs.length) : filled x xs i = Seq (fun _ => x) xs.length := by
  have : i = xs.length := by omega
  subst this
  simp [filled, Seq.const]
theorem hq_know {n : Nat} {ds : List Deferred} {Q : Exit → Act → World → Prop} {x : Exit} {e : Env} {C : World → Prop} {φ : Prop} (hk : ∀ w, C w → φ) (h : φ → HQ n ds Q x e C) : HQ n ds Q x e C := ⟨fun a w ha hC => (h (hk w hC)).out a w ha hC⟩
/-- A slice as an element. -/
structure SlV where
  a : Option Addr
  len : Nat
  cap : Nat
def SlV.v (s : SlV) : Value := .slice s.a s.len s.cap
def slE : Elem SlV where
  sz := 1
  pos := by decide
  enc s := [s.v]
  len _ := rfl
  one s v hv := by
    simp at hv
    subst hv
    rfl
end
end Go.Proofs.YtjnnlfeohbidhaaDoor
