import Derived.Test.YtbelfaoolnijiaaEngR
namespace Go.Proofs.Ytbelfaoolnijiaa
open Go Go.Proofs

/-! ### Slices that need not begin with their array -/
section
variable {X : Type}
/-- A slice value, nil or the tail of an array of its own, that holds just xs. -/
def RowM (E : Elem X) (T : Nat) (v : Value) (xs : List X) : Asn where
  p w F := (v = .slice none 0 0 ∧ xs = [] ∧ ∀ b, ¬ F b) ∨ ∃ g c0 cap cur, v = .slice (some ⟨g, c0 * E.sz, none⟩) xs.length cap ∧ (∀ x, F x ↔ x = g) ∧ w.heap[g]? = some (.cells cur T (0, 0)) ∧ xs.length ≤ cap ∧ cap ≤ maxLen ∧ cur.size = (c0 + cap) * E.sz ∧
    ∀ i x, xs[i]? = some x → ∀ j u, (E.enc x)[j]? = some u → cur[(c0 + i) * E.sz + j]? = some u
  lt := fun h b hb => by
    rcases h with ⟨_, _, h⟩ | ⟨g, c0, cap, cur, _, h1, h2, _⟩
    · exact (h b hb).elim
    · rw [(h1 b).1 hb]; exact (Array.getElem?_eq_some_iff.1 h2).1
  loc := fun h hh => by
    rcases h with h | ⟨g, c0, cap, cur, h0, h1, h2, h3⟩
    · exact .inl h
    · exact .inr ⟨g, c0, cap, cur, h0, h1, (hh g ((h1 g).2 rfl)).trans h2, h3⟩
section
variable {E : Elem X} {T : Nat} {v : Value} {xs : List X} {w0 : World} {F0 : Nat → Prop} {L L' : List Asn} {w : World}
theorem St.rowM (h : St w0 F0 (RowV E T v xs :: L) w) : St w0 F0 (RowM E T v xs :: L) w := by
  refine h.map (fun F hF => ?_)
  rcases hF with hF | ⟨g, cap, e, h1, cur, h2, h3, h4, h5, h6⟩
  · exact .inl hF
  · refine .inr ⟨g, 0, cap, cur, by rw [Nat.zero_mul]; exact e, h1, h2, h3, h4, by rw [Nat.zero_add]; exact h5, fun i x hx j u hu => ?_⟩
    rw [Nat.zero_add]
    exact h6 i x hx j u hu
theorem St.rdRowM (h : St w0 F0 L w) (hp : Pull L (RowM E T v xs) L') : Rd E w v xs := by
  obtain ⟨F, hF⟩ := h.get hp
  rcases hF with ⟨rfl, rfl, _⟩ | ⟨g, c0, cap, cur, rfl, h1, h2, h3, h4, h5, h6⟩
  · exact ⟨none, 0, rfl, Nat.le_refl _, by unfold maxLen; omega, .inl rfl⟩
  · refine ⟨_, cap, rfl, h3, h4, .inr ⟨g, c0 * E.sz, rfl, fun i x hx j u hu => ?_⟩⟩
    rw [blk_cell h2]
    have := h6 i x hx j u hu
    rw [Nat.add_mul] at this
    exact this
/-- s[k:], something left behind it. -/
theorem St.rowM_from {a : Option Addr} {len cap : Nat} {k : Nat} (h : St w0 F0 (RowM E T (.slice a len cap) xs :: L) w) (hk : k ≤ xs.length) (hc : k < cap) : St w0 F0 (RowM E T (.slice (if cap = k then a else a.map (·.add (k * E.sz))) (len - k) (cap - k)) (xs.drop k) :: L) w := by
  refine h.map (fun F hF => ?_)
  rw [if_neg (by omega)]
  rcases hF with ⟨e, rfl, h2⟩ | ⟨g, c0, cap', cur, e, h1, h2, h3, h4, h5, h6⟩
  · injection e with _ _ e3
    omega
  · injection e with e1 e2 e3
    subst e1 e2 e3
    refine .inr ⟨g, c0 + k, cap - k, cur, ?_, h1, h2, by rw [List.length_drop]; omega, by omega, by rw [h5]; congr 1; omega, fun i x hx j u hu => ?_⟩
    · rw [Option.map_some, add_lit, List.length_drop, Nat.add_mul]
    · rw [List.getElem?_drop] at hx
      have := h6 (k + i) x hx j u hu
      rw [show c0 + k + i = c0 + (k + i) by omega]
      exact this
end
section
variable {P : Program} {n : Nat} {ds : List Deferred} {ops : Array Oper} {ev wk : Nat → Bool} {K : Env → (World → Prop) → Prop} {r : List Oper} {o : Oper} {k : Nat} {e : Env} {w0 : World} {F0 : Nat → Prop} {L L' : List Asn} {E : Elem X} {T : Nat} {xs : List X}
theorem appendM_core {x y : Operand} {t b m c by_ : Nat} {zv : Value} {v : Value} {cs : Array Value} {bt : Nat} {fz : Nat × Nat} {ys : List X}
    (ho : o.op = .call { callee := .builtin .append, args := #[x, y], argTypes := #[t, t] }) (hx : e.op x = some v) (hy : e.op y = some (.slice (some ⟨b, 0, none⟩) m c)) (hu : P.underlying t = some (.slice T)) (hi : ∃ i, P.info? T = some i ∧ i.size = E.sz ∧ i.bytes = by_ ∧ i.zero = some zv) (hzv : zv.cells.size = E.sz)
    (hp : Pulls L [RowM E T v xs, Blk b (.cells cs bt fz)] L') (hm : ys.length = m) (hcs : ∀ i q, ys[i]? = some q → ∀ j u, (E.enc q)[j]? = some u → cs[i * E.sz + j]? = some u)
    (h63 : xs.length + m ≤ maxLen) (hbytes : (xs.length + m) * by_ ≤ 140737488355328) {a : Act} {w : World} (ha : Has n ds a e) (hC : St w0 F0 L w) :
    ∃ v' w', (execOp a.eval o).run P w = .ok (.value v') w' ∧ St w0 F0 (RowM E T v' (xs ++ ys) :: Blk b (.cells cs bt fz) :: L') w' := by
  have hC' : St w0 F0 ([RowM E T v xs, Blk b (.cells cs bt fz)] ++ L') w := hC.perm hp.perm
  obtain ⟨Fm, hrow⟩ := hC'.get .head
  rcases hrow with ⟨rfl, rfl, _⟩ | ⟨g, c0, cap, cur, rfl, h1, h2, h3, h4, h5, h6⟩
  · have hC2 : St w0 F0 (RowV E T (.slice none 0 0) [] :: Blk b (.cells cs bt fz) :: L') w := St.rowV_nil hC'.drop
    obtain ⟨v', w', hrun, hst, _⟩ := append_core (ys := ys) (xs := []) (L := RowV E T (.slice none 0 0) [] :: Blk b (.cells cs bt fz) :: L') ho hx hy hu hi hzv (.cons .head (.cons .head .nil)) hm hcs h63 hbytes ha hC2
    exact ⟨v', w', hrun, hst.rowM⟩
  · obtain ⟨_, hblk⟩ := hC'.get (.tail .head)
    have hb2 := hblk.2
    obtain ⟨i, i1, i2, i3, i4⟩ := hi
    have hnl : (ys.flatMap E.enc).length = m * E.sz := by rw [enc_len, hm]
    have hnc : ∀ j u, (ys.flatMap E.enc)[j]? = some u → w.cell? ((⟨b, 0, none⟩ : Addr).add j) = some u := fun j u hj => by
      obtain ⟨i, q, j', q1, q2, rfl⟩ := enc_of E _ _ _ hj
      rw [add_lit, Nat.zero_add, blk_cell hb2]
      exact hcs i q q1 j' u q2
    have h1c : ∀ u ∈ ys.flatMap E.enc, u.oneCell' = true := fun u hu => by
      obtain ⟨q, _, hq⟩ := List.mem_flatMap.1 hu
      exact E.one q u hq
    by_cases hfit : xs.length + m ≤ cap
    · have hf : (Builtin.firstCells E.sz m (.slice (some ⟨b, 0, none⟩) m c)).run P w = .ok (ys.flatMap E.enc).toArray w := run_firstCells_some _ _ _ _ _ _ _ hnl hnc
      have hroom : c0 * E.sz + xs.length * E.sz + 0 + (ys.flatMap E.enc).length ≤ cur.size := by
        rw [Nat.add_zero, hnl, h5, ← Nat.add_mul, ← Nat.add_mul]
        exact Nat.mul_le_mul_right _ (by omega)
      obtain ⟨w', e1, e2, e3⟩ := run_storeCells (P := P) (b := g) (t := T) (off := c0 * E.sz + xs.length * E.sz) (ys.flatMap E.enc) 0 cur w h2 hroom h1c
      have hrun : (execOp a.eval o).run P w = .ok (.value (.slice (some ⟨g, c0 * E.sz, none⟩) (xs.length + m) cap)) w' := by
        have hsz : SizeOf P T E.sz := ⟨i, i1, i2⟩
        have hadd : (⟨g, c0 * E.sz, none⟩ : Addr).add (xs.length * E.sz) = ⟨g, c0 * E.sz + xs.length * E.sz, none⟩ := add_lit _ _ _
        simp [execOp, ho, resolve, invoke, builtin, ha.eval hx, ha.eval hy, Builtin.append_, run_und hu, run_size hsz, Builtin.lenOf, hfit, hf, hadd, e1]
      refine ⟨_, w', hrun, ?_⟩
      refine St.turnIn (g := g) (B := RowM E T (.slice (some ⟨g, c0 * E.sz, none⟩) xs.length cap) xs) ?_ hC' e2 ?_
      · rintro w2 F2 (⟨e, _⟩ | ⟨g', c0', cap', cur', e, q1, _⟩)
        · cases e
        · injection e with e4 e5 e6
          injection e4 with e4
          injection e4 with e4 e7
          subst e4
          exact (q1 _).2 rfl
      · rintro F2 (⟨e, _⟩ | ⟨g', c0', cap', cur', e, q1, q2, _⟩)
        · cases e
        · injection e with e4 e5 e6
          injection e4 with e4
          injection e4 with e4 e7
          subst e4
          refine .inr ⟨g, c0, cap, _, by rw [List.length_append, hm], q1, e3, by rw [List.length_append]; omega, h4, by rw [setMany_size, h5], fun i q hq j u hj => ?_⟩
          have hjs : j < E.sz := by
            have := (List.getElem?_eq_some_iff.1 hj).1
            rwa [E.len] at this
          rw [setMany_get _ _ _ _ (by rw [Nat.add_zero] at hroom; simpa using hroom)]
          simp only [Nat.add_zero]
          rcases Nat.lt_or_ge i xs.length with hlt | hge
          · rw [List.getElem?_append_left hlt] at hq
            have := row_lt hlt hjs
            rw [if_neg (by rw [Nat.add_mul]; omega)]
            exact h6 i q hq j u hj
          · rw [List.getElem?_append_right hge] at hq
            have hiy : i - xs.length < ys.length := (List.getElem?_eq_some_iff.1 hq).1
            have hle : xs.length * E.sz ≤ i * E.sz := Nat.mul_le_mul_right _ hge
            have hsub : i * E.sz - xs.length * E.sz = (i - xs.length) * E.sz := (Nat.sub_mul ..).symm
            have hlt := row_lt hiy hjs
            rw [hm] at hlt
            rw [if_pos (by rw [hnl, Nat.add_mul]; omega)]
            have := enc_at E ys (i - xs.length) q hq j u hj
            rw [← this]
            congr 1
            rw [Nat.add_mul]
            omega
    · have hol : (xs.flatMap E.enc).length = xs.length * i.size := by rw [enc_len, i2]
      have hoc : ∀ j u, (xs.flatMap E.enc)[j]? = some u → w.cell? ((⟨g, c0 * E.sz, none⟩ : Addr).add j) = some u := fun j u hj => by
        obtain ⟨i, q, j', q1, q2, rfl⟩ := enc_of E _ _ _ hj
        rw [add_lit, blk_cell h2]
        have := h6 i q q1 j' u q2
        rw [Nat.add_mul, Nat.add_assoc] at this
        exact this
      have hr := run_append_grow (P := P) w t o.type T i zv hu i1 i4 ⟨g, c0 * E.sz, none⟩ xs.length cap (xs.flatMap E.enc) hol hoc ⟨b, 0, none⟩ m c (ys.flatMap E.enc) (by rw [hnl, i2]) hnc (by omega) (by simp only [maxLen] at h63; omega) (growslice_fits (by omega) (by rw [i3]; exact hbytes))
      have hrun : ∀ v' w', (Builtin.append_ #[t, t] o.type #[Value.slice (some ⟨g, c0 * E.sz, none⟩) xs.length cap, Value.slice (some ⟨b, 0, none⟩) m c]).run P w = .ok v' w' → (execOp a.eval o).run P w = .ok (.value v') w' := fun v' w' hr => by
        simp [execOp, ho, resolve, invoke, builtin, ha.eval hx, ha.eval hy, hr]
      refine ⟨_, _, hrun _ _ hr, ?_⟩
      have hge := grownCap_ge w (xs.length + m) cap T
      have hle := grownCap_le_maxLen w (xs.length + m) cap T h63
      have hst := ((hC'.drop).same (But.drew w (w.drawn + 1) _)).new (.cells ((xs.flatMap E.enc).toArray ++ (ys.flatMap E.enc).toArray ++ Builtin.zeroCells zv.cells (grownCap w (xs.length + m) cap T - (xs.length + m))) T)
      refine hst.map (fun F hF => ?_)
      obtain ⟨f1, f2⟩ := hF
      refine .inr ⟨_, 0, _, _, by rw [Nat.zero_mul, List.length_append, hm], f1, f2, by rw [List.length_append, hm]; exact hge, hle, ?_, fun i q hq j u hj => ?_⟩
      · rw [Array.size_append, Array.size_append, size_zeroCells, List.size_toArray, List.size_toArray, enc_len, hnl, hzv, ← Nat.add_mul, ← Nat.add_mul, Nat.zero_add]
        congr 1
        omega
      · rw [Nat.zero_add]
        have h8 := enc_at E (xs ++ ys) i q hq j u hj
        rw [List.flatMap_append] at h8
        have h9 := (List.getElem?_eq_some_iff.1 h8).1
        rw [Array.getElem?_append_left (by simpa using h9)]
        simpa using h8
end
end

/-! ### Slices held against nil; appends of nothing -/
section
variable {P : Program} {n : Nat} {ds : List Deferred} {ops : Array Oper} {ev wk : Nat → Bool} {K : Env → (World → Prop) → Prop} {r : List Oper} {o : Oper} {k : Nat} {e : Env} {C : World → Prop}
theorem run_eqSlNil {t el : TypeId} {a : Option Addr} {l c : Nat} {w : World} (h : P.underlying t = some (.slice el)) : (Op.equal t (.slice a l c) (.slice none 0 0)).run P w = .ok a.isNone w := by
  show Sem.run P (Op.equalIn (9999 + 1) t _ _) w = _
  rw [Op.equalIn]
  cases a <;> simp [run_und h]
theorem h_eqNilS {t t2 el : TypeId} {x y : Operand} {a : Option Addr} {l c : Nat} (ho : o.op = .binOp .eql t x y t2) (hx : e.op x = some (.slice a l c)) (hy : e.op y = some (.slice none 0 0)) (hu : P.underlying t = some (.slice el))
    {dd : Nat} (hdst : o.dst = some dd) (hd : okD n (some dd) = true) (h : HX P n ds ops ev wk K r (k + 1) ((dd, .bool a.isNone) :: e) C) : HX1 P n ds ops ev wk K o r k e C :=
  hx1_pure (by rw [ho]; rfl) hdst hd (fun a' w ha => by
    simp [execOp, ho, eqGuard, binOp, ha.eval hx, ha.eval hy, run_eqSlNil hu]) h
theorem h_neqNilS {t t2 el : TypeId} {x y : Operand} {a : Option Addr} {l c : Nat} (ho : o.op = .binOp .neq t x y t2) (hx : e.op x = some (.slice a l c)) (hy : e.op y = some (.slice none 0 0)) (hu : P.underlying t = some (.slice el))
    {dd : Nat} (hdst : o.dst = some dd) (hd : okD n (some dd) = true) (h : HX P n ds ops ev wk K r (k + 1) ((dd, .bool (!a.isNone)) :: e) C) : HX1 P n ds ops ev wk K o r k e C :=
  hx1_pure (by rw [ho]; rfl) hdst hd (fun a' w ha => by
    simp [execOp, ho, eqGuard, binOp, ha.eval hx, ha.eval hy, run_eqSlNil hu]) h
theorem h_appendNone {x y : Operand} {t T s : Nat} {a0 ay : Option Addr} {l c cy : Nat} (hev : ev k = true)
    (ho : o.op = .call { callee := .builtin .append, args := #[x, y], argTypes := #[t, t] }) (hx : e.op x = some (.slice a0 l c)) (hy : e.op y = some (.slice ay 0 cy)) (hu : P.underlying t = some (.slice T)) (hs : SizeOf P T s) (hl : l ≤ c) {dd : Nat} (hdst : o.dst = some dd) (hd : okD n (some dd) = true)
    (h : HX P n ds ops ev wk K r (k + 1) ((dd, .slice a0 l c) :: e) C) : HX1 P n ds ops ev wk K o r k e C :=
  hx1_event hev (fun a w ha hC => by
    have hf : (Builtin.firstCells s 0 (.slice ay 0 cy)).run P w = .ok #[] w := by
      cases ay with
      | none => exact run_firstCells_none _ _ _ _ _
      | some a1 => exact run_firstCells_some (P := P) w s 0 a1 0 cy [] (by simp) (by simp)
    have hrun : (execOp a.eval o).run P w = .ok (.value (.slice a0 l c)) w := by
      cases a0 <;> simp [execOp, ho, resolve, invoke, builtin, ha.eval hx, ha.eval hy, Builtin.append_, run_und hu, run_size hs, Builtin.lenOf, hl, hf, storeCells]
    unfold Oper.wp
    rw [hrun]
    exact ⟨C, _, hC, fun _ _ h => h, by rw [hdst]; exact ha.put hd _, h⟩)
end
/-- An array of no element. -/
theorem St.rowV_none {X : Type} {E : Elem X} {T b : Nat} {w0 : World} {F0 : Nat → Prop} {L : List Asn} {w : World} (h : St w0 F0 (Blk b (.cells #[] T (0, 0)) :: L) w) : St w0 F0 (RowV E T (.slice (some ⟨b, 0, none⟩) 0 0) [] :: L) w :=
  St.rowV_mk (xs := []) (h.map (A := Blk b (.cells #[] T (0, 0))) (B := Row E T b 0 []) (fun F hF => ⟨hF.1, #[], hF.2, Nat.le_refl _, Nat.zero_le _, by simp, fun i x hx => by cases hx⟩))

/-! ### Pieces opened, with what is known then; a map's store where reads may still come -/
section
variable {P : Program} {n : Nat} {ds : List Deferred} {Q : Exit → Act → World → Prop} {e : Env} {w0 : World} {F0 : Nat → Prop} {L L' : List Asn}
theorem hc_openP {c : Code} {A : Asn} {X : Type} {M : X → List Asn} {φ : X → Prop} (hp : Pull L A L') (ho : ∀ w w0 F0 R, St w0 F0 (A :: R) w → ∃ x, φ x ∧ St w0 F0 (M x ++ R) w) (h : ∀ x, φ x → HC P n ds c Q e (St w0 F0 (M x ++ L'))) : HC P n ds c Q e (St w0 F0 L) := ⟨fun a w ha hC => by
  obtain ⟨x, hx, hs⟩ := ho w w0 F0 L' (hC.perm hp.perm)
  exact (h x hx).out a w ha hs⟩
theorem hq_openP {x : Exit} {A : Asn} {X : Type} {M : X → List Asn} {φ : X → Prop} (hp : Pull L A L') (ho : ∀ w w0 F0 R, St w0 F0 (A :: R) w → ∃ x, φ x ∧ St w0 F0 (M x ++ R) w) (h : ∀ y, φ y → HQ n ds Q x e (St w0 F0 (M y ++ L'))) : HQ n ds Q x e (St w0 F0 L) := ⟨fun a w ha hC => by
  obtain ⟨y, hy, hs⟩ := ho w w0 F0 L' (hC.perm hp.perm)
  exact (h y hy).out a w ha hs⟩
theorem hd_mapUpdate {A : Type} {KO : KeyOf A} {m : List (A × Value)} {g : Nat} {ops : Array Oper} {ev : Nat → Bool} {D : World → Prop} {K : Env → (World → Prop) → Prop} {r : List (Nat × Oper)} {i : Nat} {o : Oper} {t kt et : TypeId} {x y z : Operand} {a : A} {v : Value} (hg : o.guard = none) (hev : ev i = true) (ho : o.op = .mapUpdate t x y z) (hdst : o.dst = none)
    (hp : Pull L (MapA KO g m) L') (hx : e.op x = some (.map (some g))) (hz : e.op z = some v) (hu : P.underlying t = some (.map kt et)) (hk : P.underlying kt = some KO.desc) (hy : e.op y = some (KO.val a))
    (hD : ∀ x, St w0 F0 (MapA KO g (mset KO m a v) :: L') x → D x)
    (h : HD P n ds ops ev D K r e (St w0 F0 (MapA KO g (mset KO m a v) :: L'))) : HD P n ds ops ev D K ((i, o) :: r) e (St w0 F0 L) := ⟨fun a' ha => by
  simp only [TXD]
  rw [if_pos (by simp [Region.wanted, hg]), if_pos hev]
  intro w hC
  have hC' := hC.perm hp.perm
  obtain ⟨F, _, es, c, hb, hm, hn⟩ := hC.get hp
  obtain ⟨w', hrun, hbut, es', c', hh, hm'⟩ := run_mapUpdate (P := P) (k := a) (x := v) hu hk hb hm hn
  unfold Oper.wp
  have : (execOp a'.eval o).run P w = .ok .skip w' := by simp [execOp, ho, ha.eval hx, ha.eval hy, ha.eval hz, hrun]
  rw [this]
  refine ⟨_, hC'.turn (g := g) (B := MapA KO g m) (B' := MapA KO g (mset KO m a v)) (fun _ _ h => h.1) hbut (fun F hF => ⟨hF.1, es', c', hh, hm'⟩), hD, ?_⟩
  rw [hdst]
  exact h.out _ ha⟩
end

/-! ### Calls that only make new pieces: reads may come behind them -/
section
variable {P : Program} {n : Nat} {ds : List Deferred} {ops : Array Oper} {ev wk : Nat → Bool} {K : Env → (World → Prop) → Prop} {r : List Oper} {o : Oper} {k : Nat} {e : Env} {w0 : World} {F0 : Nat → Prop} {L : List Asn}
theorem h_callWk {c : Call} {f : FuncId} {fo : Operand} {vs : List Value} {cap : Array Value} {post : Value → List Asn → Prop} (hev : ev k = true) (ho : o.op = .call c) (hc : c.callee = .value fo) (hf : e.op fo = some (.func (.func f) #[] cap)) (hvs : e.ops c.args.toList = some vs)
    {dd : Nat} (hdst : o.dst = some dd) (hd : okD n (some dd) = true) (he : Enters P f)
    (hs : ∀ w, St w0 F0 L w → Calls P f (vs ++ cap.toList).toArray w (fun en w' => ∃ v M, en = .returned v ∧ post v M ∧ St w nowhere M w'))
    (h : ∀ v M, post v M → HX P n ds ops ev wk K r (k + 1) ((dd, v) :: e) (St w0 F0 (M ++ L))) : HX1 P n ds ops ev wk K o r k e (St w0 F0 L) :=
  hx1_event hev (fun a w ha hC => by
    unfold Oper.wp
    rw [run_call he hc (ha.eval hf) (ha.evals hvs) ho]
    have hcall := hs w hC
    have e1 : (vs ++ cap.toList).toArray = vs.toArray ++ cap := by simp
    rw [e1] at hcall
    refine hcall.mono ?_
    rintro en w' ⟨v, M, rfl, hp, hSt⟩
    exact ⟨St w0 F0 (M ++ L), _, St.call (pre := []) hC (fun F1 _ => hSt.wide F1), fun _ x hx => St.left (M := M) (hx.perm List.perm_append_comm), by rw [hdst]; exact ha.put hd v, h v M hp⟩)
end

/-! ### A drawn region in an order and with events of one's own -/
theorem hc_drawV {P : Program} {n : Nat} {ds : List Deferred} {Q : Exit → Act → World → Prop} {e : Env} {w0 : World} {F0 : Nat → Prop} {L : List Asn} {id : Nat} {l : List Oper} (ev : Nat → Bool) (ord : List Nat) (wk : Nat → Bool) (hm : P.follows .mixedOrders = true) (hB : (Region.noSelect l.toArray && (ord.all (fun i => decide (i < l.length)) && chkO l.toArray ev wk ord (Array.replicate l.length false))) = true) (hn : ord.length = l.length)
    (h : HX P n ds l.toArray (fun k => ev (ord.getD k 0)) (fun k => wk (ord.getD k 0)) (fun e' C' => HQ n ds Q .normal e' C') (ord.map fun i => l.getD i default) 0 e (St w0 F0 L)) : HC P n ds (Code.region id l.toArray true) Q e (St w0 F0 L) := ⟨fun a w ha hC => by
  refine wp_region_txO (ev := ev) (wk := wk) (C := St w0 F0 L) ord hm hB hn (hC.same (.drew w _ _)) ?_
  exact tx_convO _ _ _ _ (h.out a ha)⟩
end Go.Proofs.Ytbelfaoolnijiaa
