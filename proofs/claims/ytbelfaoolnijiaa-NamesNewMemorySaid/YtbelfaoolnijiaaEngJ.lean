import Derived.Test.YtbelfaoolnijiaaEngI
import Derived.Laws.IdiomStrings
namespace Go.Proofs.Ytbelfaoolnijiaa
open Go

/-! ### append within the room that there is -/
variable {X : Type}
section
variable {w w' : World} {E : Elem X} {T g cap : Nat} {xs ys : List X}
theorem Row.grow {F : Nat → Prop} {cur : Array Value} (h : (Row E T g cap xs).p w F) (hb : w.heap[g]? = some (.cells cur T (0, 0))) (hh : w'.heap[g]? = some (.cells (setMany cur (xs.length * E.sz) (ys.flatMap E.enc)) T (0, 0))) (hfit : xs.length + ys.length ≤ cap) : (Row E T g cap (xs ++ ys)).p w' F := by
  obtain ⟨h1, cur', h2, h3, h4, h5, h6⟩ := h
  rw [hb] at h2
  cases h2
  have hnl : (ys.flatMap E.enc).length = ys.length * E.sz := enc_len E ys
  have hf : xs.length * E.sz + (ys.flatMap E.enc).length ≤ cur.size := by
    rw [hnl, h5, ← Nat.add_mul]
    exact Nat.mul_le_mul_right _ hfit
  refine ⟨h1, _, hh, by rw [List.length_append]; exact hfit, h4, by rw [setMany_size, h5], fun i q hq j u hj => ?_⟩
  have hjs : j < E.sz := by
    have := (List.getElem?_eq_some_iff.1 hj).1
    rwa [E.len] at this
  rw [setMany_get _ _ _ _ hf]
  rcases Nat.lt_or_ge i xs.length with hlt | hge
  · rw [List.getElem?_append_left hlt] at hq
    rw [if_neg (by have := row_lt hlt hjs; omega)]
    exact h6 i q hq j u hj
  · rw [List.getElem?_append_right hge] at hq
    have hiy : i - xs.length < ys.length := (List.getElem?_eq_some_iff.1 hq).1
    have hle : xs.length * E.sz ≤ i * E.sz := Nat.mul_le_mul_right _ hge
    have hsub : i * E.sz - xs.length * E.sz = (i - xs.length) * E.sz := (Nat.sub_mul ..).symm
    have hlt := row_lt hiy hjs
    rw [if_pos (by rw [hnl]; omega)]
    have := enc_at E ys (i - xs.length) q hq j u hj
    rw [← this]
    congr 1
    omega
end
section
variable {P : Program} {n : Nat} {ds : List Deferred} {ops : Array Oper} {ev wk : Nat → Bool} {K : Env → (World → Prop) → Prop} {r : List Oper} {o : Oper} {k : Nat} {e : Env} {w0 : World} {F0 : Nat → Prop} {L L' : List Asn} {E : Elem X} {T g cap : Nat} {xs ys : List X}
theorem row_append {w : World} (hC : St w0 F0 (Row E T g cap xs :: L') w) (hfit : xs.length + ys.length ≤ cap) :
    ∃ w', (storeCells ((⟨g, 0, none⟩ : Addr).add (xs.length * E.sz)) (ys.flatMap E.enc) 0).run P w = .ok () w' ∧ St w0 F0 (Row E T g cap (xs ++ ys) :: L') w' := by
  obtain ⟨F1, hrow, hput⟩ := hC.split1
  obtain ⟨h1, cur, hb, h3, h4, h5, h6⟩ := id hrow
  have hnl : (ys.flatMap E.enc).length = ys.length * E.sz := enc_len E ys
  have h1c : ∀ u ∈ ys.flatMap E.enc, u.oneCell' = true := fun u hu => by
    obtain ⟨q, _, hq⟩ := List.mem_flatMap.1 hu
    exact E.one q u hq
  obtain ⟨w', e1, e2, e3⟩ := run_storeCells (P := P) (b := g) (t := T) (off := xs.length * E.sz) (ys.flatMap E.enc) 0 cur w hb (by rw [Nat.add_zero, hnl, h5, ← Nat.add_mul]; exact Nat.mul_le_mul_right _ hfit) h1c
  refine ⟨w', ?_, hput w' [Row E T g cap (xs ++ ys)] ?_⟩
  · rw [add_lit, Nat.zero_add]
    exact e1
  · rw [Nat.add_zero] at e3
    have hnew := Row.grow (ys := ys) hrow hb e3 hfit
    exact st_one hnew ⟨e2.os, e2.tape, e2.output, e2.size, fun j hj hn => e2.blk j hj fun e => hn ((h1 j).2 e)⟩ (fun x hx => .inl hx)
/-- append(s, d...), where there is room. -/
theorem h_appendFit {x y : Operand} {t q : Nat} {vy : Value} (ys : List X) (hev : ev k = true) (hwk : wk k = false)
    (ho : o.op = .call { callee := .builtin .append, args := #[x, y], argTypes := #[t, t] }) (hx : e.op x = some (.slice (some ⟨g, 0, none⟩) q cap)) (hq : q = xs.length) (hy : e.op y = some vy) (hu : P.underlying t = some (.slice T)) (hi : SizeOf P T E.sz)
    (hp : Pull L (Row E T g cap xs) L') (hr : ∀ w, St w0 F0 L w → Rd E w vy ys) (hfit : xs.length + ys.length ≤ cap) {dd : Nat} (hdst : o.dst = some dd) (hd : okD n (some dd) = true)
    (h : HX P n ds ops ev wk K r (k + 1) ((dd, .slice (some ⟨g, 0, none⟩) (xs.length + ys.length) cap) :: e) (St w0 F0 (Row E T g cap (xs ++ ys) :: L'))) : HX1 P n ds ops ev wk K o r k e (St w0 F0 L) :=
  hx1_event hev (fun a w ha hC => by
    subst hq
    obtain ⟨ya, yc, rfl, y1, y2, y3⟩ := hr w hC
    have hC' : St w0 F0 (Row E T g cap xs :: L') w := hC.perm hp.perm
    obtain ⟨w', e1, e2⟩ := row_append (P := P) (ys := ys) hC' hfit
    have hf : (Builtin.firstCells E.sz ys.length (.slice ya ys.length yc)).run P w = .ok (ys.flatMap E.enc).toArray w := by
      rcases y3 with rfl | ⟨gb, ob, rfl, hcell⟩
      · cases ya with
        | none => exact run_firstCells_none _ _ _ _ _
        | some a0 => exact run_firstCells_some _ _ _ _ _ _ _ (by simp) (by simp)
      · refine run_firstCells_some _ _ _ _ _ _ _ (enc_len E ys) (fun j u hj => ?_)
        obtain ⟨i, q, j', h1, h2, rfl⟩ := enc_of E _ _ _ hj
        rw [add_lit, ← Nat.add_assoc]
        exact hcell i q h1 j' u h2
    have hrun : (execOp a.eval o).run P w = .ok (.value (.slice (some ⟨g, 0, none⟩) (xs.length + ys.length) cap)) w' := by
      simp [execOp, ho, resolve, invoke, builtin, ha.eval hx, ha.eval hy, Builtin.append_, run_und hu, run_size hi, Builtin.lenOf, hfit, hf, e1]
    unfold Oper.wp
    rw [hrun]
    exact ⟨_, _, e2, (fun h => by rw [hwk] at h; cases h), (by rw [hdst]; exact ha.put hd _), h⟩)
theorem zero_cells {z : Value} (hz : z.cells.toList = [z]) (m : Nat) : Builtin.zeroCells z.cells m = (List.replicate m z).toArray := by
  have hs : z.cells.size = 1 := by rw [← Array.length_toList, hz]; rfl
  have h0 : z.cells = #[z] := by apply Array.ext'; exact hz
  unfold Builtin.zeroCells
  rw [h0]
  apply Array.ext_getElem?
  intro i
  simp only [List.getElem?_toArray, List.getElem?_replicate, Array.getElem?_map]
  by_cases hi : i < m
  · rw [if_pos hi]
    simp [hi, Nat.mod_one]
  · rw [if_neg hi]
    simp [hi]
theorem zeros_enc : ∀ m : Nat, (List.replicate m (0 : Int)).flatMap byteE.enc = List.replicate m (Value.int .u8 0)
  | 0 => rfl
  | m + 1 => by
    rw [List.replicate_succ, List.flatMap_cons, zeros_enc m, List.replicate_succ]
    rfl
/-- append(s, make([]byte, m)...), where there is room. -/
theorem h_appendZ {x y : Operand} {t t2 q by_ : Nat} {q2 : IntKind} {xs : List Int} (m : Nat) (hev : ev k = true) (hwk : wk k = false)
    (ho : o.op = .call { callee := .builtin .append, args := #[x, y], argTypes := #[t, t2] }) (hx : e.op x = some (.slice (some ⟨g, 0, none⟩) q cap)) (hq : q = xs.length) (hy : e.op y = some (.int .i64 (m : Int))) (hu : P.underlying t = some (.slice T)) (hu2 : P.underlying t2 = some (.int q2)) (hi : ∃ i, P.info? T = some i ∧ i.size = 1 ∧ i.bytes = by_ ∧ i.zero = some (.int .u8 0))
    (hp : Pull L (Row byteE T g cap xs) L') (hby : m * by_ ≤ 281474976710656) (hm : m ≤ 9223372036854775807) (hfit : xs.length + m ≤ cap) {dd : Nat} (hdst : o.dst = some dd) (hd : okD n (some dd) = true)
    (h : HX P n ds ops ev wk K r (k + 1) ((dd, .slice (some ⟨g, 0, none⟩) (xs.length + m) cap) :: e) (St w0 F0 (Row byteE T g cap (xs ++ List.replicate m 0) :: L'))) : HX1 P n ds ops ev wk K o r k e (St w0 F0 L) :=
  hx1_event hev (fun a w ha hC => by
    subst hq
    obtain ⟨i, i1, i2, i3, i4⟩ := hi
    have hC' : St w0 F0 (Row byteE T g cap xs :: L') w := hC.perm hp.perm
    obtain ⟨w', e1, e2⟩ := row_append (P := P) (ys := List.replicate m (0 : Int)) hC' (by rw [List.length_replicate]; exact hfit)
    have hfl := zeros_enc m
    have hw : IntKind.i64.wrap (m : Int) = (m : Int) := by
      simp only [IntKind.wrap, IntKind.signed, IntKind.bits]
      simp
      omega
    rw [hfl] at e1
    have hzc : Builtin.zeroCells (Value.int .u8 0).cells m = (List.replicate m (Value.int .u8 0)).toArray := zero_cells rfl m
    have hb2 : ¬ ((m : Int) * (by_ : Int) > 281474976710656) := by
      have : ((m * by_ : Nat) : Int) ≤ 281474976710656 := by omega
      rw [Int.natCast_mul] at this
      omega
    have hrun : (execOp a.eval o).run P w = .ok (.value (.slice (some ⟨g, 0, none⟩) (xs.length + m) cap)) w' := by
      simp only [execOp, ho, resolve, invoke, builtin, Builtin.append_]
      by_cases hm0 : m = 0
      · subst hm0
        have e1' : w' = w := by
          have : (storeCells ((⟨g, 0, none⟩ : Addr).add (xs.length * byteE.sz)) (List.replicate 0 (Value.int .u8 0)) 0).run P w = .ok () w := by simp [storeCells]
          rw [this] at e1
          cases e1
          rfl
        subst e1'
        have hw0 : IntKind.i64.wrap 0 = 0 := by decide
        simp [ha.eval hx, ha.eval hy, run_und hu, run_und hu2, sizeOf, typeInfo, i1, i2, i3, asInt, asIntOf, hw0, storeCells]
        intro hh
        omega
      · simp [ha.eval hx, ha.eval hy, run_und hu, run_und hu2, sizeOf, typeInfo, i1, i2, i3, i4, asInt, asIntOf, hw, hb2, hfit, hm0, zeroValue, hzc]
        have e1' : (storeCells ((⟨g, 0, none⟩ : Addr).add xs.length) (List.replicate m (Value.int .u8 0)) 0).run P w = .ok () w' := by
          have := e1
          rwa [show xs.length * byteE.sz = xs.length from Nat.mul_one _] at this
        simp [e1']
        intro hh
        omega
    unfold Oper.wp
    rw [hrun]
    exact ⟨_, _, e2, (fun h => by rw [hwk] at h; cases h), (by rw [hdst]; exact ha.put hd _), h⟩)
end

/-! ### []byte(s) -/
def strBytes (s : ByteArray) : List Int := s.data.toList.map (fun b => (b.toNat : Int))
theorem strBytes_len (s : ByteArray) : (strBytes s).length = s.size := by
  unfold strBytes
  rw [List.length_map]
  rfl
/-- A block whose first cells are these bytes; it is only read. -/
def BytB (b cap : Nat) (xs : List Int) : Asn where
  p w F := (∀ x, F x ↔ x = b) ∧ ∃ (cs : Array Value) (T : TypeId) (fz : Nat × Nat), w.heap[b]? = some (.cells cs T fz) ∧ xs.length ≤ cap ∧ cap ≤ maxLen ∧ ∀ (i : Nat) (x : Int), xs[i]? = some x → cs[i]? = some (Value.int .u8 x)
  lt := fun ⟨h1, _, _, _, h2, _⟩ x hx => by rw [(h1 x).1 hx]; exact (Array.getElem?_eq_some_iff.1 h2).1
  loc := fun ⟨h1, cs, T, fz, h2, r⟩ h => ⟨h1, cs, T, fz, (h b ((h1 b).2 rfl)).trans h2, r⟩
theorem St.rdBytB {b cap : Nat} {xs : List Int} {w0 : World} {F0 : Nat → Prop} {L L' : List Asn} {w : World} (h : St w0 F0 L w) (hp : Pull L (BytB b cap xs) L') : Rd byteE w (.slice (some ⟨b, 0, none⟩) xs.length cap) xs := by
  obtain ⟨F, _, cs, T, fz, hb, h1, h2, h3⟩ := h.get hp
  refine ⟨_, cap, rfl, h1, h2, .inr ⟨b, 0, rfl, fun i x hx j u hu => ?_⟩⟩
  match j, hu with
  | 0, hu =>
    cases hu
    rw [blk_cell hb, Nat.zero_add]
    show cs[i * 1 + 0]? = _
    rw [Nat.mul_one, Nat.add_zero]
    exact h3 i x hx
theorem h_ofString {P : Program} {n : Nat} {ds : List Deferred} {ops : Array Oper} {ev wk : Nat → Bool} {K : Env → (World → Prop) → Prop} {r : List Oper} {o : Oper} {k : Nat} {e : Env} {w0 : World} {F0 : Nat → Prop} {L : List Asn} {src dst el : TypeId} {x : Operand} {s : ByteArray} (hev : ev k = true) (ho : o.op = .convert src dst x) (hx : e.op x = some (.string s)) (hu : P.underlying src = some .string) (hu2 : P.underlying dst = some (.slice el)) (hu3 : P.underlying el = some (.int .u8)) (hl : s.size ≤ maxLen)
    {dd : Nat} (hdst : o.dst = some dd) (hd : okD n (some dd) = true) (h : ∀ b cap, HX P n ds ops ev wk K r (k + 1) ((dd, .slice (some ⟨b, 0, none⟩) (strBytes s).length cap) :: e) (St w0 F0 (BytB b cap (strBytes s) :: L))) : HX1 P n ds ops ev wk K o r k e (St w0 F0 L) :=
  hx1_event hev (fun a w ha hC => by
    have hrun := run_bytes_of_string (P := P) w src dst el s hu hu2 hu3
    unfold Oper.wp
    have : (execOp a.eval o).run P w = .ok (.value (.slice (some ⟨w.heap.size, 0, none⟩) (strBytes s).length (grownCap w s.size 0 el))) (w.drew.alloc (.cells (bytesRow s (grownCap w s.size 0 el)) el ((bytesRow s (grownCap w s.size 0 el)).size, (bytesRow s (grownCap w s.size 0 el)).size + 1))) := by
      rw [strBytes_len]
      simp only [execOp, ho, ha.eval hx, Sem.run_bind, hrun, Result.andThen_ok]
      rfl
    rw [this]
    refine ⟨St w0 F0 (BytB w.heap.size (grownCap w s.size 0 el) (strBytes s) :: L), _, ?_, fun _ _ hh => hh.drop, (by rw [hdst]; exact ha.put hd _), h _ _⟩
    have h1 := St.call (pre := []) (post := [BytB w.heap.size (grownCap w s.size 0 el) (strBytes s)]) (rest := L) (w' := w.drew.alloc (.cells (bytesRow s (grownCap w s.size 0 el)) el ((bytesRow s (grownCap w s.size 0 el)).size, (bytesRow s (grownCap w s.size 0 el)).size + 1))) hC (fun F1 _ => ?_)
    · exact h1
    · refine ⟨fun x => x = w.heap.size, ⟨fun x => x = w.heap.size, fun _ => False, ⟨fun _ => Iff.rfl, bytesRow s (grownCap w s.size 0 el), el, ((bytesRow s (grownCap w s.size 0 el)).size, (bytesRow s (grownCap w s.size 0 el)).size + 1), ?_, ?_, ?_, fun i x hx => ?_⟩, trivial, fun _ _ h => h, fun _ h => h.elim id False.elim⟩, ?_, fun x hx => .inr (Nat.le_of_eq hx.symm)⟩
      · show (w.heap.push _)[w.heap.size]? = _
        simp
      · rw [strBytes_len]; exact grownCap_ge w s.size 0 el
      · exact grownCap_le_maxLen w s.size 0 el hl
      · have hi : i < (strBytes s).length := (List.getElem?_eq_some_iff.1 hx).1
        rw [strBytes_len] at hi
        simp only [bytesRow]
        rw [Array.getElem?_append_left (by rw [Array.size_map]; exact hi)]
        simp only [strBytes, List.getElem?_map] at hx
        rw [Array.getElem?_map]
        cases hq : s.data[i]? with
        | none => rw [show s.data.toList[i]? = s.data[i]? by simp, hq] at hx; cases hx
        | some q => rw [show s.data.toList[i]? = s.data[i]? by simp, hq] at hx; cases hx; rfl
      · exact ⟨rfl, rfl, rfl, by show _ ≤ (w.heap.push _).size; simp, fun j hj _ => by
          show (w.heap.push _)[j]? = _
          rw [Array.getElem?_push, if_neg (by omega)]⟩)
theorem strBytes_of : ∀ {xs : List Int}, (∀ x ∈ xs, 0 ≤ x ∧ x ≤ 255) → strBytes (strOf xs) = xs := by
  intro xs h
  have key : ∀ (xs : List Int) (r : ByteArray), (∀ x ∈ xs, 0 ≤ x ∧ x ≤ 255) → strBytes (xs.foldl (fun r n => r.push (UInt8.ofNat n.toNat)) r) = strBytes r ++ xs := by
    intro xs
    induction xs with
    | nil => intro r _; simp
    | cons x xs ih =>
      intro r h
      rw [List.foldl_cons, ih _ (fun y hy => h y (List.mem_cons_of_mem _ hy))]
      have hx := h x (List.mem_cons_self ..)
      have e1 : strBytes (r.push (UInt8.ofNat x.toNat)) = strBytes r ++ [x] := by
        have e2 : ((UInt8.ofNat x.toNat).toNat : Int) = x := by
          rw [UInt8.toNat_ofNat']
          omega
        have e3 : (r.push (UInt8.ofNat x.toNat)).data.toList = r.data.toList ++ [UInt8.ofNat x.toNat] := by simp [ByteArray.push]
        unfold strBytes
        rw [e3, List.map_append, List.map_singleton, e2]
      rw [e1, List.append_assoc]
      rfl
  have := key xs ByteArray.empty h
  rw [show strBytes ByteArray.empty = [] from rfl, List.nil_append] at this
  exact this

section
variable {P : Program} {n : Nat} {ds : List Deferred} {ops : Array Oper} {ev wk : Nat → Bool} {K : Env → (World → Prop) → Prop} {r : List Oper} {o : Oper} {k : Nat} {e : Env} {C : World → Prop}
theorem u64_in {x : Int} (h : 0 ≤ x ∧ x ≤ 18446744073709551615) : IntKind.u64.wrap x = x := by
  simp only [IntKind.wrap, IntKind.signed, IntKind.bits]
  simp
  omega
theorem h_quoU {t t2 : TypeId} {x y : Operand} {a b : Int} (ho : o.op = .binOp .quo t x y t2) (hx : e.op x = some (.int .u64 a)) (hy : e.op y = some (.int .u64 b)) (hb : 0 ≤ a ∧ a ≤ 18446744073709551615 ∧ 1 ≤ b)
    {dd : Nat} (hdst : o.dst = some dd) (hd : okD n (some dd) = true) (h : HX P n ds ops ev wk K r (k + 1) ((dd, .int .u64 (a / b)) :: e) C) : HX1 P n ds ops ev wk K o r k e C :=
  h_quo ho hx hy (by omega) hdst hd (by
    rw [Int.tdiv_eq_ediv_of_nonneg hb.1, u64_in]
    · exact h
    · have h1 : 0 ≤ a / b := Int.ediv_nonneg hb.1 (by omega)
      have h2 : a / b ≤ a := Int.ediv_le_self _ hb.1
      omega)
theorem h_remU {t t2 : TypeId} {x y : Operand} {a b : Int} (ho : o.op = .binOp .rem t x y t2) (hx : e.op x = some (.int .u64 a)) (hy : e.op y = some (.int .u64 b)) (hb : 0 ≤ a ∧ b ≠ 0)
    {dd : Nat} (hdst : o.dst = some dd) (hd : okD n (some dd) = true) (h : HX P n ds ops ev wk K r (k + 1) ((dd, .int .u64 (a % b)) :: e) C) : HX1 P n ds ops ev wk K o r k e C :=
  h_rem ho hx hy hb.2 hdst hd (by rw [Int.tmod_eq_emod_of_nonneg hb.1]; exact h)
end
end Go.Proofs.Ytbelfaoolnijiaa
