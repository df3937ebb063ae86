import Derived.Test.YtfolhmlldoepfaaGreatDoorGb
import Derived.Laws.IdiomStrings
import Derived.Maps.RangeRun
import Derived.Laws.Concat
namespace Go.Proofs.YtfolhmlldoepfaaGreatDoor
open Go
variable {X : Type}
section
variable {w w' : World} {E : Elem X} {T g cap : Nat} {xs ys : List X}
theorem Row.grow {F : Nat → Prop} {cur : Array Value} (h : (Row E T g cap xs).p w F) (hb : w.heap[g]? = some (.cells cur T (0, 0))) (hh : w'.heap[g]? = some (.cells (setMany cur (xs.length * E.sz) (ys.flatMap E.enc)) T (0, 0))) (hfit : xs.length + ys.length ≤ cap) : (Row E T g cap (xs ++ ys)).p w' F := by
  obtain ⟨h1, cur', h2, h3, h4, h5, h6⟩ := h
  rw [hb] at h2
  cases h2
  have hnl : (ys.flatMap E.enc).length = ys.length * E.sz := enc_len E ys
  have hf : xs.length * E.sz + (ys.flatMap E.enc).length ≤ cur.size := by
    rw [hnl, h5, ← Nat.add_mul]
    exact Nat.mul_le_mul_right _ hfit
  refine ⟨h1, _, hh, by rw [List.length_append]; exact hfit, h4, by rw [setMany_size, h5], fun i q hq j u hj => ?_⟩
  have hjs : j < E.sz := by
    have := (List.getElem?_eq_some_iff.1 hj).1
    rwa [E.len] at this
  rw [setMany_get _ _ _ _ hf]
  rcases Nat.lt_or_ge i xs.length with hlt | hge
  · rw [List.getElem?_append_left hlt] at hq
    rw [if_neg (by have := row_lt hlt hjs; omega)]
    exact h6 i q hq j u hj
  · rw [List.getElem?_append_right hge] at hq
    have hiy : i - xs.length < ys.length := (List.getElem?_eq_some_iff.1 hq).1
    have hle : xs.length * E.sz ≤ i * E.sz := Nat.mul_le_mul_right _ hge
    have hsub : i * E.sz - xs.length * E.sz = (i - xs.length) * E.sz := (Nat.sub_mul ..).symm
    have hlt := row_lt hiy hjs
    rw [if_pos (by rw [hnl]; omega)]
    have := enc_at E ys (i - xs.length) q hq j u hj
    rw [← this]
    congr 1
    omega
end
section
variable {P : Program} {n : Nat} {ds : List Deferred} {ops : Array Oper} {ev wk : Nat → Bool} {K : Env → (World → Prop) → Prop} {r : List Oper} {o : Oper} {k : Nat} {e : Env} {w0 : World} {F0 : Nat → Prop} {L L' : List Asn} {E : Elem X} {T g cap : Nat} {xs ys : List X}
theorem row_append {w : World} (hC : St w0 F0 (Row E T g cap xs :: L') w) (hfit : xs.length + ys.length ≤ cap) :
    ∃ w', (storeCells ((⟨g, 0, none⟩ : Addr).add (xs.length * E.sz)) (ys.flatMap E.enc) 0).run P w = .ok () w' ∧ St w0 F0 (Row E T g cap (xs ++ ys) :: L') w' := by
  obtain ⟨F1, hrow, hput⟩ := hC.split1
  obtain ⟨h1, cur, hb, h3, h4, h5, h6⟩ := id hrow
  have hnl : (ys.flatMap E.enc).length = ys.length * E.sz := enc_len E ys
  have h1c : ∀ u ∈ ys.flatMap E.enc, u.oneCell' = true := fun u hu => by
    obtain ⟨q, _, hq⟩ := List.mem_flatMap.1 hu
    exact E.one q u hq
  obtain ⟨w', e1, e2, e3⟩ := run_storeCells (P := P) (b := g) (t := T) (off := xs.length * E.sz) (ys.flatMap E.enc) 0 cur w hb (by rw [Nat.add_zero, hnl, h5, ← Nat.add_mul]; exact Nat.mul_le_mul_right _ hfit) h1c
  refine ⟨w', ?_, hput w' [Row E T g cap (xs ++ ys)] ?_⟩
  · rw [add_lit, Nat.zero_add]
    exact e1
  · rw [Nat.add_zero] at e3
    have hnew := Row.grow (ys := ys) hrow hb e3 hfit
    exact st_one hnew ⟨e2.os, e2.tape, e2.output, e2.size, fun j hj hn => e2.blk j hj fun e => hn ((h1 j).2 e)⟩ (fun x hx => .inl hx)
/-- append(s, d...), where there is room. -/
theorem h_appendFit {x y : Operand} {t q : Nat} {vy : Value} (ys : List X) (hev : ev k = true) (hwk : wk k = false)
    (ho : o.op = .call { callee := .builtin .append, args := #[x, y], argTypes := #[t, t] }) (hx : e.op x = some (.slice (some ⟨g, 0, none⟩) q cap)) (hq : q = xs.length) (hy : e.op y = some vy) (hu : P.underlying t = some (.slice T)) (hi : SizeOf P T E.sz)
    (hp : Pull L (Row E T g cap xs) L') (hr : ∀ w, St w0 F0 L w → Rd E w vy ys) (hfit : xs.length + ys.length ≤ cap) {dd : Nat} (hdst : o.dst = some dd) (hd : okD n (some dd) = true)
    (h : HX P n ds ops ev wk K r (k + 1) ((dd, .slice (some ⟨g, 0, none⟩) (xs.length + ys.length) cap) :: e) (St w0 F0 (Row E T g cap (xs ++ ys) :: L'))) : HX1 P n ds ops ev wk K o r k e (St w0 F0 L) :=
  hx1_event hev (fun a w ha hC => by
    subst hq
    obtain ⟨ya, yc, rfl, y1, y2, y3⟩ := hr w hC
    have hC' : St w0 F0 (Row E T g cap xs :: L') w := hC.perm hp.perm
    obtain ⟨w', e1, e2⟩ := row_append (P := P) (ys := ys) hC' hfit
    have hf : (Builtin.firstCells E.sz ys.length (.slice ya ys.length yc)).run P w = .ok (ys.flatMap E.enc).toArray w := by
      rcases y3 with rfl | ⟨gb, ob, rfl, hcell⟩
      · cases ya with
        | none => exact run_firstCells_none _ _ _ _ _
        | some a0 => exact run_firstCells_some _ _ _ _ _ _ _ (by simp) (by simp)
      · refine run_firstCells_some _ _ _ _ _ _ _ (enc_len E ys) (fun j u hj => ?_)
        obtain ⟨i, q, j', h1, h2, rfl⟩ := enc_of E _ _ _ hj
        rw [add_lit, ← Nat.add_assoc]
        exact hcell i q h1 j' u h2
    have hrun : (execOp a.eval o).run P w = .ok (.value (.slice (some ⟨g, 0, none⟩) (xs.length + ys.length) cap)) w' := by
      simp [execOp, ho, resolve, invoke, builtin, ha.eval hx, ha.eval hy, Builtin.append_, run_und hu, run_size hi, Builtin.lenOf, hfit, hf, e1]
    unfold Oper.wp
    rw [hrun]
    exact ⟨_, _, e2, (fun h => by rw [hwk] at h; cases h), (by rw [hdst]; exact ha.put hd _), h⟩)
theorem zero_cells {z : Value} (hz : z.cells.toList = [z]) (m : Nat) : Builtin.zeroCells z.cells m = (List.replicate m z).toArray := by
  have hs : z.cells.size = 1 := by rw [← Array.length_toList, hz]; rfl
  have h0 : z.cells = #[z] := by apply Array.ext'; exact hz
  unfold Builtin.zeroCells
  rw [h0]
  apply Array.ext_getElem?
  intro i
  simp only [List.getElem?_toArray, List.getElem?_replicate, Array.getElem?_map]
  by_cases hi : i < m
  · rw [if_pos hi]
    simp [hi, Nat.mod_one]
  · rw [if_neg hi]
    simp [hi]
theorem zeros_enc : ∀ m : Nat, (List.replicate m (0 : Int)).flatMap byteE.enc = List.replicate m (Value.int .u8 0)
  | 0 => rfl
  | m + 1 => by
    rw [List.replicate_succ, List.flatMap_cons, zeros_enc m, List.replicate_succ]
    rfl
/-- append(s, make([]byte, m)...), where there is room. -/
theorem h_appendZ {x y : Operand} {t t2 q by_ : Nat} {q2 : IntKind} {xs : List Int} (m : Nat) (hev : ev k = true) (hwk : wk k = false)
    (ho : o.op = .call { callee := .builtin .append, args := #[x, y], argTypes := #[t, t2] }) (hx : e.op x = some (.slice (some ⟨g, 0, none⟩) q cap)) (hq : q = xs.length) (hy : e.op y = some (.int .i64 (m : Int))) (hu : P.underlying t = some (.slice T)) (hu2 : P.underlying t2 = some (.int q2)) (hi : ∃ i, P.info? T = some i ∧ i.size = 1 ∧ i.bytes = by_ ∧ i.zero = some (.int .u8 0))
    (hp : Pull L (Row byteE T g cap xs) L') (hby : m * by_ ≤ 281474976710656) (hm : m ≤ 9223372036854775807) (hfit : xs.length + m ≤ cap) {dd : Nat} (hdst : o.dst = some dd) (hd : okD n (some dd) = true)
    (h : HX P n ds ops ev wk K r (k + 1) ((dd, .slice (some ⟨g, 0, none⟩) (xs.length + m) cap) :: e) (St w0 F0 (Row byteE T g cap (xs ++ List.replicate m 0) :: L'))) : HX1 P n ds ops ev wk K o r k e (St w0 F0 L) :=
  hx1_event hev (fun a w ha hC => by
    subst hq
    obtain ⟨i, i1, i2, i3, i4⟩ := hi
    have hC' : St w0 F0 (Row byteE T g cap xs :: L') w := hC.perm hp.perm
    obtain ⟨w', e1, e2⟩ := row_append (P := P) (ys := List.replicate m (0 : Int)) hC' (by rw [List.length_replicate]; exact hfit)
    have hfl := zeros_enc m
    have hw : IntKind.i64.wrap (m : Int) = (m : Int) := by
      simp only [IntKind.wrap, IntKind.signed, IntKind.bits]
      simp
      omega
    rw [hfl] at e1
    have hzc : Builtin.zeroCells (Value.int .u8 0).cells m = (List.replicate m (Value.int .u8 0)).toArray := zero_cells rfl m
    have hb2 : ¬ ((m : Int) * (by_ : Int) > 281474976710656) := by
      have : ((m * by_ : Nat) : Int) ≤ 281474976710656 := by omega
      rw [Int.natCast_mul] at this
      omega
    have hrun : (execOp a.eval o).run P w = .ok (.value (.slice (some ⟨g, 0, none⟩) (xs.length + m) cap)) w' := by
      simp only [execOp, ho, resolve, invoke, builtin, Builtin.append_]
      by_cases hm0 : m = 0
      · subst hm0
        have e1' : w' = w := by
          have : (storeCells ((⟨g, 0, none⟩ : Addr).add (xs.length * byteE.sz)) (List.replicate 0 (Value.int .u8 0)) 0).run P w = .ok () w := by simp [storeCells]
          rw [this] at e1
          cases e1
          rfl
        subst e1'
        have hw0 : IntKind.i64.wrap 0 = 0 := by decide
        simp [ha.eval hx, ha.eval hy, run_und hu, run_und hu2, sizeOf, typeInfo, i1, i2, i3, asInt, asIntOf, hw0, storeCells]
        intro hh
        omega
      · simp [ha.eval hx, ha.eval hy, run_und hu, run_und hu2, sizeOf, typeInfo, i1, i2, i3, i4, asInt, asIntOf, hw, hb2, hfit, hm0, zeroValue, hzc]
        have e1' : (storeCells ((⟨g, 0, none⟩ : Addr).add xs.length) (List.replicate m (Value.int .u8 0)) 0).run P w = .ok () w' := by
          have := e1
          rwa [show xs.length * byteE.sz = xs.length from Nat.mul_one _] at this
        simp [e1']
        intro hh
        omega
    unfold Oper.wp
    rw [hrun]
    exact ⟨_, _, e2, (fun h => by rw [hwk] at h; cases h), (by rw [hdst]; exact ha.put hd _), h⟩)
end
def strBytes (s : ByteArray) : List Int := s.data.toList.map (fun b => (b.toNat : Int))
theorem strBytes_len (s : ByteArray) : (strBytes s).length = s.size := by
  unfold strBytes
  rw [List.length_map]
  rfl
/-- A block whose first cells are these bytes; it is only read. -/
def BytB (b cap : Nat) (xs : List Int) : Asn where
  p w F := (∀ x, F x ↔ x = b) ∧ ∃ (cs : Array Value) (T : TypeId) (fz : Nat × Nat), w.heap[b]? = some (.cells cs T fz) ∧ xs.length ≤ cap ∧ cap ≤ maxLen ∧ ∀ (i : Nat) (x : Int), xs[i]? = some x → cs[i]? = some (Value.int .u8 x)
  lt := fun ⟨h1, _, _, _, h2, _⟩ x hx => by rw [(h1 x).1 hx]; exact (Array.getElem?_eq_some_iff.1 h2).1
  loc := fun ⟨h1, cs, T, fz, h2, r⟩ h => ⟨h1, cs, T, fz, (h b ((h1 b).2 rfl)).trans h2, r⟩
theorem St.rdBytB {b cap : Nat} {xs : List Int} {w0 : World} {F0 : Nat → Prop} {L L' : List Asn} {w : World} (h : St w0 F0 L w) (hp : Pull L (BytB b cap xs) L') : Rd byteE w (.slice (some ⟨b, 0, none⟩) xs.length cap) xs := by
  obtain ⟨F, _, cs, T, fz, hb, h1, h2, h3⟩ := h.get hp
  refine ⟨_, cap, rfl, h1, h2, .inr ⟨b, 0, rfl, fun i x hx j u hu => ?_⟩⟩
  match j, hu with
  | 0, hu =>
    cases hu
    rw [blk_cell hb, Nat.zero_add]
    show cs[i * 1 + 0]? = _
    rw [Nat.mul_one, Nat.add_zero]
    exact h3 i x hx
theorem h_ofString {P : Program} {n : Nat} {ds : List Deferred} {ops : Array Oper} {ev wk : Nat → Bool} {K : Env → (World → Prop) → Prop} {r : List Oper} {o : Oper} {k : Nat} {e : Env} {w0 : World} {F0 : Nat → Prop} {L : List Asn} {src dst el : TypeId} {x : Operand} {s : ByteArray} (hev : ev k = true) (ho : o.op = .convert src dst x) (hx : e.op x = some (.string s)) (hu : P.underlying src = some .string) (hu2 : P.underlying dst = some (.slice el)) (hu3 : P.underlying el = some (.int .u8)) (hl : s.size ≤ maxLen)
    {dd : Nat} (hdst : o.dst = some dd) (hd : okD n (some dd) = true) (h : ∀ b cap, HX P n ds ops ev wk K r (k + 1) ((dd, .slice (some ⟨b, 0, none⟩) (strBytes s).length cap) :: e) (St w0 F0 (BytB b cap (strBytes s) :: L))) : HX1 P n ds ops ev wk K o r k e (St w0 F0 L) :=
  hx1_event hev (fun a w ha hC => by
    have hrun := run_bytes_of_string (P := P) w src dst el s hu hu2 hu3
    unfold Oper.wp
    have : (execOp a.eval o).run P w = .ok (.value (.slice (some ⟨w.heap.size, 0, none⟩) (strBytes s).length (grownCap w s.size 0 el))) (w.drew.alloc (.cells (bytesRow s (grownCap w s.size 0 el)) el ((bytesRow s (grownCap w s.size 0 el)).size, (bytesRow s (grownCap w s.size 0 el)).size + 1))) := by
      rw [strBytes_len]
      simp only [execOp, ho, ha.eval hx, Sem.run_bind, hrun, Result.andThen_ok]
      rfl
    rw [this]
    refine ⟨St w0 F0 (BytB w.heap.size (grownCap w s.size 0 el) (strBytes s) :: L), _, ?_, fun _ _ hh => hh.drop, (by rw [hdst]; exact ha.put hd _), h _ _⟩
    have h1 := St.call (pre := []) (post := [BytB w.heap.size (grownCap w s.size 0 el) (strBytes s)]) (rest := L) (w' := w.drew.alloc (.cells (bytesRow s (grownCap w s.size 0 el)) el ((bytesRow s (grownCap w s.size 0 el)).size, (bytesRow s (grownCap w s.size 0 el)).size + 1))) hC (fun F1 _ => ?_)
    · exact h1
    · refine ⟨fun x => x = w.heap.size, ⟨fun x => x = w.heap.size, fun _ => False, ⟨fun _ => Iff.rfl, bytesRow s (grownCap w s.size 0 el), el, ((bytesRow s (grownCap w s.size 0 el)).size, (bytesRow s (grownCap w s.size 0 el)).size + 1), ?_, ?_, ?_, fun i x hx => ?_⟩, trivial, fun _ _ h => h, fun _ h => h.elim id False.elim⟩, ?_, fun x hx => .inr (Nat.le_of_eq hx.symm)⟩
      · show (w.heap.push _)[w.heap.size]? = _
        simp
      · rw [strBytes_len]; exact grownCap_ge w s.size 0 el
      · exact grownCap_le_maxLen w s.size 0 el hl
      · have hi : i < (strBytes s).length := (List.getElem?_eq_some_iff.1 hx).1
        rw [strBytes_len] at hi
        simp only [bytesRow]
        rw [Array.getElem?_append_left (by rw [Array.size_map]; exact hi)]
        simp only [strBytes, List.getElem?_map] at hx
        rw [Array.getElem?_map]
        cases hq : s.data[i]? with
        | none => rw [show s.data.toList[i]? = s.data[i]? by simp, hq] at hx; cases hx
        | some q => rw [show s.data.toList[i]? = s.data[i]? by simp, hq] at hx; cases hx; rfl
      · exact ⟨rfl, rfl, rfl, by show _ ≤ (w.heap.push _).size; simp, fun j hj _ => by
          show (w.heap.push _)[j]? = _
          rw [Array.getElem?_push, if_neg (by omega)]⟩)
theorem strBytes_of : ∀ {xs : List Int}, (∀ x ∈ xs, 0 ≤ x ∧ x ≤ 255) → strBytes (strOf xs) = xs := by
  intro xs h
  have key : ∀ (xs : List Int) (r : ByteArray), (∀ x ∈ xs, 0 ≤ x ∧ x ≤ 255) → strBytes (xs.foldl (fun r n => r.push (UInt8.ofNat n.toNat)) r) = strBytes r ++ xs := by
    intro xs
    induction xs with
    | nil => intro r _; simp
    | cons x xs ih =>
      intro r h
      rw [List.foldl_cons, ih _ (fun y hy => h y (List.mem_cons_of_mem _ hy))]
      have hx := h x (List.mem_cons_self ..)
      have e1 : strBytes (r.push (UInt8.ofNat x.toNat)) = strBytes r ++ [x] := by
        have e2 : ((UInt8.ofNat x.toNat).toNat : Int) = x := by
          rw [UInt8.toNat_ofNat']
          omega
        have e3 : (r.push (UInt8.ofNat x.toNat)).data.toList = r.data.toList ++ [UInt8.ofNat x.toNat] := by simp [ByteArray.push]
        unfold strBytes
        rw [e3, List.map_append, List.map_singleton, e2]
      rw [e1, List.append_assoc]
      rfl
  have := key xs ByteArray.empty h
  rw [show strBytes ByteArray.empty = [] from rfl, List.nil_append] at this
  exact this
section
variable {P : Program} {n : Nat} {ds : List Deferred} {ops : Array Oper} {ev wk : Nat → Bool} {K : Env → (World → Prop) → Prop} {r : List Oper} {o : Oper} {k : Nat} {e : Env} {C : World → Prop}
theorem u64_in {x : Int} (h : 0 ≤ x ∧ x ≤ 18446744073709551615) : IntKind.u64.wrap x = x := by
  simp only [IntKind.wrap, IntKind.signed, IntKind.bits]
  simp
  omega
theorem h_quoU {t t2 : TypeId} {x y : Operand} {a b : Int} (ho : o.op = .binOp .quo t x y t2) (hx : e.op x = some (.int .u64 a)) (hy : e.op y = some (.int .u64 b)) (hb : 0 ≤ a ∧ a ≤ 18446744073709551615 ∧ 1 ≤ b)
    {dd : Nat} (hdst : o.dst = some dd) (hd : okD n (some dd) = true) (h : HX P n ds ops ev wk K r (k + 1) ((dd, .int .u64 (a / b)) :: e) C) : HX1 P n ds ops ev wk K o r k e C :=
  h_quo ho hx hy (by omega) hdst hd (by
    rw [Int.tdiv_eq_ediv_of_nonneg hb.1, u64_in]
    · exact h
    · have h1 : 0 ≤ a / b := Int.ediv_nonneg hb.1 (by omega)
      have h2 : a / b ≤ a := Int.ediv_le_self _ hb.1
      omega)
theorem h_remU {t t2 : TypeId} {x y : Operand} {a b : Int} (ho : o.op = .binOp .rem t x y t2) (hx : e.op x = some (.int .u64 a)) (hy : e.op y = some (.int .u64 b)) (hb : 0 ≤ a ∧ b ≠ 0)
    {dd : Nat} (hdst : o.dst = some dd) (hd : okD n (some dd) = true) (h : HX P n ds ops ev wk K r (k + 1) ((dd, .int .u64 (a % b)) :: e) C) : HX1 P n ds ops ev wk K o r k e C :=
  h_rem ho hx hy hb.2 hdst hd (by rw [Int.tmod_eq_emod_of_nonneg hb.1]; exact h)
end
end Go.Proofs.YtfolhmlldoepfaaGreatDoor
namespace Go.Proofs.YtfolhmlldoepfaaGreatDoor
open Go
/-- Called with args on the pieces pre, in a world that comes of w1, whose blocks are left alone, f returns. -/
def SpecB (P : Program) (w1 : World) (f : FuncId) (args : List Value) (pre : List Asn) (post : Value → List Asn → Prop) : Prop :=
  ∀ w F, Star w pre F → But w1 w nowhere → (∀ b, F b → w1.heap.size ≤ b) → Calls P f args.toArray w (fun en w' => ∃ v M, en = .returned v ∧ post v M ∧ St w F M w')
theorem Rd.butF {X : Type} {E : Elem X} {w w' : World} {F : Nat → Prop} {v : Value} {xs : List X} (h : Rd E w v xs) (hb : But w w' F) (hF : ∀ b, F b → w.heap.size ≤ b) : Rd E w' v xs := by
  obtain ⟨a, cap, h1, h2, h3, h4⟩ := h
  refine ⟨a, cap, h1, h2, h3, h4.imp id ?_⟩
  rintro ⟨g, off, e, hc⟩
  refine ⟨g, off, e, fun i x hx j u hu => ?_⟩
  have hcell := hc i x hx j u hu
  have hlt : g < w.heap.size := cell_lt hcell
  exact hb.cell (S := F) (fun hf => absurd (hF _ hf) (by show ¬ w.heap.size ≤ g; omega)) hcell
theorem But.thenF {w1 w w' : World} {F : Nat → Prop} (h : But w1 w nowhere) (hb : But w w' F) (hF : ∀ b, F b → w1.heap.size ≤ b) : But w1 w' nowhere :=
  ⟨hb.os.trans h.os, hb.tape.trans h.tape, hb.output.trans h.output, Nat.le_trans h.size hb.size, fun k hk _ => (hb.blk k (Nat.lt_of_lt_of_le hk h.size) (fun hf => absurd (hF _ hf) (by omega))).trans (h.blk k hk id)⟩
theorem St.butB {w1 w w' : World} {F : Nat → Prop} {L : List Asn} (h : St w F L w') (hB : But w1 w nowhere) (hF : ∀ b, F b → w1.heap.size ≤ b) : But w1 w' nowhere := hB.thenF h.but hF
section
variable {P : Program} {n : Nat} {ds : List Deferred} {ops : Array Oper} {ev wk : Nat → Bool} {K : Env → (World → Prop) → Prop} {r : List Oper} {o : Oper} {k : Nat} {e : Env} {C D : World → Prop} {w1 w0 : World} {F0 : Nat → Prop} {L L' : List Asn} {l : List (Nat × List Value)} {g : Nat}
theorem h_callB (hB : But w1 w0 nowhere) (hF : ∀ b, F0 b → w1.heap.size ≤ b) {c : Call} {f : FuncId} {fo : Operand} {vs : List Value} {cap : Array Value} {pre rest : List Asn} {post : Value → List Asn → Prop} (hev : ev k = true) (hwk : wk k = false) (ho : o.op = .call c) (hc : c.callee = .value fo) (hf : e.op fo = some (.func (.func f) #[] cap)) (hvs : e.ops c.args.toList = some vs)
    {dd : Nat} (hdst : o.dst = some dd) (hd : okD n (some dd) = true) (he : Enters P f) (hpu : Pulls L pre rest) (hs : SpecB P w1 f (vs ++ cap.toList) pre post)
    (h : ∀ v M, post v M → HX P n ds ops ev wk K r (k + 1) ((dd, v) :: e) (St w0 F0 (M ++ rest))) : HX1 P n ds ops ev wk K o r k e (St w0 F0 L) :=
  hx1_event hev (fun a w ha hC => by
    have hC' : St w0 F0 (pre ++ rest) w := hC.perm hpu.perm
    unfold Oper.wp
    rw [run_call he hc (ha.eval hf) (ha.evals hvs) ho]
    obtain ⟨F1, s1, s2, s3⟩ := hC'.callAt
    have hcall := hs w F1 s1 (hC.butB hB hF) (fun b hb => (s2 b hb).elim (hF b) (fun h => Nat.le_trans hB.size h))
    have e1 : (vs ++ cap.toList).toArray = vs.toArray ++ cap := by simp
    rw [e1] at hcall
    refine hcall.mono ?_
    rintro en w' ⟨v, M, rfl, hp, hSt⟩
    exact ⟨St w0 F0 (M ++ rest), _, s3 M w' hSt, (fun h => by rw [hwk] at h; cases h), (by rw [hdst]; exact ha.put hd v), h v M hp⟩)
theorem SpecI.toB {f : FuncId} {args : List Value} {pre : List Asn} {post : Value → List Asn → Prop} (h : SpecI P l g f args pre post) (hI : Glo l g w1) : SpecB P w1 f args pre post := fun w F hs hB hF =>
  h w F hs (hI.but hB (fun _ h => h.elim)) (fun b hb => Nat.le_trans hI.1 (hF b hb))
theorem specB_of {f : FuncId} {fn : Func} {c : Code} {args : List Value} {pre : List Asn} {post : Value → List Asn → Prop} (hf : P.funcs[f]? = some fn) (hb : fn.body = some c) (hn : fn.ntmps = n) (hlen : args.length ≤ n)
    (h : ∀ w F, But w1 w nowhere → (∀ b, F b → w1.heap.size ≤ b) → HC P n [] c (bodyPost P fn (bodyR w F post)) (envOf 0 args) (St w F pre)) : SpecB P w1 f args pre post := fun w F hs hB hF =>
  calls_of_wp hf hb ((h w F hB hF).out _ _ (start_has hn hlen) (.start hs))
variable {Q : Exit → Act → World → Prop}
theorem hc_drawE {id : Nat} {l : List Oper} (ev : Nat → Bool) (o1 o2 : List Nat) (hm : P.follows .mixedOrders = true) (hB : (Region.noSelect l.toArray && ((o1 ++ o2).all (fun i => decide (i < l.length)) && chkD l.toArray ev (o1 ++ o2) (Array.replicate l.length false))) = true) (hn : (o1 ++ o2).length = l.length) (hCD : ∀ x, St w0 F0 L x → D x) (he : (o1.all fun i => !ev i) = true)
    (h : HX P n ds l.toArray (fun _ => false) (fun _ => false) (fun e' _ => HD P n ds l.toArray ev D (fun e' C' => HQ n ds Q .normal e' C') (o2.map fun i => (i, l.getD i default)) e' (St w0 F0 L)) (o1.map fun i => l.getD i default) 0 e D) : HC P n ds (Code.region id l.toArray true) Q e (St w0 F0 L) := ⟨fun a w ha hC => by
  refine wp_region_txD (ev := ev) (C := St w0 F0 L) (D := D) (o1 ++ o2) hm hB hn (hC.same (.drew w _ _)) hCD ?_
  have hh : HD P n ds l.toArray ev D (fun e' C' => HQ n ds Q .normal e' C') ((o1 ++ o2).map fun i => (i, l.getD i default)) e (St w0 F0 L) := by
    rw [List.map_append]
    refine hd_reads _ (by rw [List.all_map]; exact he) ?_
    rw [List.map_map]
    exact h
  exact txd_mono (fun a' C' ⟨e', h1, h2⟩ w' hw' => h2.out a' w' h1 hw') _ _ _ (hh.out a ha)⟩
theorem hd_callB {r : List (Nat × Oper)} (hB : But w1 w0 nowhere) (hF : ∀ b, F0 b → w1.heap.size ≤ b) {i : Nat} {o : Oper} {c : Call} {f : FuncId} {fo : Operand} {vs : List Value} {cap : Array Value} {pre rest : List Asn} {post : Value → List Asn → Prop} {K : Env → (World → Prop) → Prop} (hg : o.guard = none) (hev : ev i = true) (ho : o.op = .call c) (hc : c.callee = .value fo) (hf : e.op fo = some (.func (.func f) #[] cap)) (hvs : e.ops c.args.toList = some vs)
    {dd : Nat} (hdst : o.dst = some dd) (hd : okD n (some dd) = true) (he : Enters P f) (hpu : Pulls L pre rest) (hs : SpecB P w1 f (vs ++ cap.toList) pre post)
    (hD : ∀ v M, post v M → ∀ x, St w0 F0 (M ++ rest) x → D x)
    (h : ∀ v M, post v M → HD P n ds ops ev D K r ((dd, v) :: e) (St w0 F0 (M ++ rest))) : HD P n ds ops ev D K ((i, o) :: r) e (St w0 F0 L) := ⟨fun a ha => by
  simp only [TXD]
  rw [if_pos (by simp [Region.wanted, hg]), if_pos hev]
  intro w hC
  have hC' : St w0 F0 (pre ++ rest) w := hC.perm hpu.perm
  unfold Oper.wp
  rw [run_call he hc (ha.eval hf) (ha.evals hvs) ho]
  obtain ⟨F1, s1, s2, s3⟩ := hC'.callAt
  have hcall := hs w F1 s1 (hC.butB hB hF) (fun b hb => (s2 b hb).elim (hF b) (fun h => Nat.le_trans hB.size h))
  have e1 : (vs ++ cap.toList).toArray = vs.toArray ++ cap := by simp
  rw [e1] at hcall
  refine hcall.mono ?_
  rintro en w' ⟨v, M, rfl, hp, hSt⟩
  exact ⟨St w0 F0 (M ++ rest), s3 M w' hSt, hD v M hp, (h v M hp).out _ (by rw [hdst]; exact ha.put hd v)⟩⟩
/-- A call that only reads, as an event. -/
theorem hd_callRd {r : List (Nat × Oper)} {i : Nat} {o : Oper} {c : Call} {f : FuncId} {fo : Operand} {vs : List Value} {cap : Array Value} {v : Value} {K : Env → (World → Prop) → Prop} (hg : o.guard = none) (hev : ev i = true) (ho : o.op = .call c) (hc : c.callee = .value fo) (hf : e.op fo = some (.func (.func f) #[] cap)) (hvs : e.ops c.args.toList = some vs)
    {dd : Nat} (hdst : o.dst = some dd) (hd : okD n (some dd) = true) (he : Enters P f) (hs : ∀ w, St w0 F0 L w → Calls P f (vs ++ cap.toList).toArray w (fun en w' => en = .returned v ∧ But w w' nowhere)) (hCD : ∀ x, St w0 F0 L x → D x)
    (h : HD P n ds ops ev D K r ((dd, v) :: e) (St w0 F0 L)) : HD P n ds ops ev D K ((i, o) :: r) e (St w0 F0 L) := ⟨fun a ha => by
  simp only [TXD]
  rw [if_pos (by simp [Region.wanted, hg]), if_pos hev]
  intro w hC
  unfold Oper.wp
  rw [run_call he hc (ha.eval hf) (ha.evals hvs) ho]
  have hcall := hs w hC
  have e1 : (vs ++ cap.toList).toArray = vs.toArray ++ cap := by simp
  rw [e1] at hcall
  refine hcall.mono ?_
  rintro en w' ⟨rfl, hb⟩
  exact ⟨_, hC.same hb, hCD, h.out _ (by rw [hdst]; exact ha.put hd v)⟩⟩
end
end Go.Proofs.YtfolhmlldoepfaaGreatDoor
namespace Go.Proofs.YtfolhmlldoepfaaGreatDoor
open Go Go.Proofs
theorem shl_cons {A : Asn} {M : List Asn} {w w0 : World} {F0 : Nat → Prop} {R : List Asn} (h : St w0 F0 (All (A :: M) :: R) w) : St w0 F0 (A :: All M :: R) w := by
  have h1 : St w0 F0 (A :: (M ++ R)) w := St.all.1 h
  have h2 : St w0 F0 (M ++ (A :: R)) w := h1.perm List.perm_middle.symm
  exact (St.all.2 h2).perm (List.Perm.swap _ _ _)
theorem shl_snoc {A : Asn} {M : List Asn} {w w0 : World} {F0 : Nat → Prop} {R : List Asn} (h : St w0 F0 (All M :: A :: R) w) : St w0 F0 (All (M ++ [A]) :: R) w := by
  have h1 := St.all.1 h
  apply St.all.2
  rw [List.append_assoc]
  exact h1
section
variable {X : Type} {G G' : X → Nat → Asn} {ps : List X} {k : Nat} {p : X} {w w0 : World} {F0 : Nat → Prop} {R : List Asn}
end
theorem St.rowV_shapeS {X : Type} {E : Elem X} {T : Nat} {v : Value} {xs : List X} {w w0 : World} {F0 : Nat → Prop} {L L' : List Asn} (h : St w0 F0 L w) (hp : Pull L (RowV E T v xs) L') : ∃ a c, v = .slice a xs.length c := by
  obtain ⟨a, c, e, _⟩ := h.rdRowV hp
  exact ⟨a, c, e⟩
end Go.Proofs.YtfolhmlldoepfaaGreatDoor
namespace Go.Proofs.YtfolhmlldoepfaaGreatDoor
open Go Go.Proofs
section
variable {A : Type}
section
variable {KO : KeyOf A} {g r : Nat} {m rest : List (A × Value)} {last : Option (A × Value)} {w0 : World} {F0 : Nat → Prop} {L : List Asn} {w : World}
end
section
variable {P : Program} {n : Nat} {ds : List Deferred} {ops : Array Oper} {ev wk : Nat → Bool} {K : Env → (World → Prop) → Prop} {rs : List Oper} {o : Oper} {k : Nat} {e : Env} {w0 : World} {F0 : Nat → Prop} {L L' : List Asn} {KO : KeyOf A} {m rest : List (A × Value)} {last : Option (A × Value)} {g r : Nat}
end
end
section
variable {A : Type} {KO : KeyOf A}
end
end Go.Proofs.YtfolhmlldoepfaaGreatDoor
namespace Go.Proofs.YtfolhmlldoepfaaGreatDoor
open Go Go.Proofs
section
variable {X : Type}
section
variable {E : Elem X} {T : Nat} {v : Value} {xs : List X} {w0 : World} {F0 : Nat → Prop} {L L' : List Asn} {w : World}
end
section
variable {P : Program} {n : Nat} {ds : List Deferred} {ops : Array Oper} {ev wk : Nat → Bool} {K : Env → (World → Prop) → Prop} {r : List Oper} {o : Oper} {k : Nat} {e : Env} {w0 : World} {F0 : Nat → Prop} {L L' : List Asn} {E : Elem X} {T : Nat} {xs : List X}
end
end
section
variable {P : Program} {n : Nat} {ds : List Deferred} {ops : Array Oper} {ev wk : Nat → Bool} {K : Env → (World → Prop) → Prop} {r : List Oper} {o : Oper} {k : Nat} {e : Env} {C : World → Prop}
end
section
variable {P : Program} {n : Nat} {ds : List Deferred} {Q : Exit → Act → World → Prop} {e : Env} {w0 : World} {F0 : Nat → Prop} {L L' : List Asn}
end
section
variable {P : Program} {n : Nat} {ds : List Deferred} {ops : Array Oper} {ev wk : Nat → Bool} {K : Env → (World → Prop) → Prop} {r : List Oper} {o : Oper} {k : Nat} {e : Env} {w0 : World} {F0 : Nat → Prop} {L : List Asn}
theorem h_callWk {c : Call} {f : FuncId} {fo : Operand} {vs : List Value} {cap : Array Value} {post : Value → List Asn → Prop} (hev : ev k = true) (ho : o.op = .call c) (hc : c.callee = .value fo) (hf : e.op fo = some (.func (.func f) #[] cap)) (hvs : e.ops c.args.toList = some vs)
    {dd : Nat} (hdst : o.dst = some dd) (hd : okD n (some dd) = true) (he : Enters P f)
    (hs : ∀ w, St w0 F0 L w → Calls P f (vs ++ cap.toList).toArray w (fun en w' => ∃ v M, en = .returned v ∧ post v M ∧ St w nowhere M w'))
    (h : ∀ v M, post v M → HX P n ds ops ev wk K r (k + 1) ((dd, v) :: e) (St w0 F0 (M ++ L))) : HX1 P n ds ops ev wk K o r k e (St w0 F0 L) :=
  hx1_event hev (fun a w ha hC => by
    unfold Oper.wp
    rw [run_call he hc (ha.eval hf) (ha.evals hvs) ho]
    have hcall := hs w hC
    have e1 : (vs ++ cap.toList).toArray = vs.toArray ++ cap := by simp
    rw [e1] at hcall
    refine hcall.mono ?_
    rintro en w' ⟨v, M, rfl, hp, hSt⟩
    exact ⟨St w0 F0 (M ++ L), _, St.call (pre := []) hC (fun F1 _ => hSt.wide F1), fun _ x hx => St.left (M := M) (hx.perm List.perm_append_comm), by rw [hdst]; exact ha.put hd v, h v M hp⟩)
end
end Go.Proofs.YtfolhmlldoepfaaGreatDoor
namespace Go.Proofs.YtfolhmlldoepfaaGreatDoor
open Go
section
variable {P : Program} {ev wk : Nat → Bool}
end
section
variable {P : Program} {n : Nat} {ds : List Deferred} {Q : Exit → Act → World → Prop} {e : Env} {w0 : World} {F0 : Nat → Prop} {L : List Asn}
end
end Go.Proofs.YtfolhmlldoepfaaGreatDoor
namespace Go.Proofs.YtfolhmlldoepfaaGreatDoor
open Go Go.Proofs Go.RowKit
set_option maxRecDepth 4000
section
variable {X : Type} {P : Program} {n : Nat} {ds : List Deferred} {ops : Array Oper} {ev wk : Nat → Bool} {K : Env → (World → Prop) → Prop} {r : List Oper} {o : Oper} {k : Nat} {e : Env} {w0 : World} {F0 : Nat → Prop} {L L' : List Asn} {E : Elem X} {T : Nat} {xs : List X}
end
section
variable {P : Program} {n : Nat} {ds : List Deferred} {ops : Array Oper} {ev wk : Nat → Bool} {K : Env → (World → Prop) → Prop} {r : List Oper} {o : Oper} {k : Nat} {e : Env} {C : World → Prop}
end
end Go.Proofs.YtfolhmlldoepfaaGreatDoor
namespace Go.Proofs.YtfolhmlldoepfaaGreatDoor
open Go
section
variable {P : Program} {ops : Array Oper} {ev : Nat → Bool}
def wpAnyL (P : Program) (ops : Array Oper) (ev fin : Nat → Bool) (D : World → Prop) (K : Act → (World → Prop) → Prop) : Nat → Array Bool → Act → (World → Prop) → Prop
  | 0, listed, a, C => Region.ready .any ops listed = [] ∧ K a C
  | fuel + 1, listed, a, C =>
    (Region.ready .any ops listed = [] → K a C) ∧
    ∀ i ∈ Region.ready .any ops listed,
      if ev i then ∀ w, C w → wpOp P ops QN i (fun a' w' => ∃ C' : World → Prop, C' w' ∧ (fin i = true ∨ ∀ x, C' x → D x) ∧ wpAnyL P ops ev fin D K fuel (listed.setIfInBounds i true) a' C') a w
      else qOp P ops C i (fun a' => wpAnyL P ops ev fin D K fuel (listed.setIfInBounds i true) a' C) a
theorem wpAny_of_L {fin : Nat → Bool} {D : World → Prop} {K : Act → (World → Prop) → Prop} {Q : Exit → Act → World → Prop} (hQ : ∀ a C w, C w → K a C → Q .normal a w) : ∀ (fuel : Nat) (listed : Array Bool) (a : Act) (C : World → Prop) (w : World), C w →
    wpAnyL P ops ev fin D K fuel listed a C → wpAny P .any ops Q fuel listed a w
  | 0, _, _, _, _, hw, h => ⟨h.1, hQ _ _ _ hw h.2⟩
  | fuel + 1, _, _, C, w, hw, h => by
    refine ⟨fun h0 => hQ _ _ _ hw (h.1 h0), fun i hi => ?_⟩
    have h1 := h.2 i hi
    split at h1
    · exact wpOp_monoQ (wpOp_mono (fun a' w' ⟨C', hC', _, h'⟩ => wpAny_of_L hQ fuel _ a' C' w' hC' h') (h1 w hw))
    · exact wpOp_of_qOp hw (fun a' w' hw' => wpAny_of_L hQ fuel _ a' C w' hw') h1
/-- It waits for all others. -/
def finOk (ops : Array Oper) (fin : Nat → Bool) : Prop := ∀ (j : Nat) (oj : Oper), ops[j]? = some oj → fin j = true → ∀ i, i < ops.size → i ≠ j → ∃ e ∈ oj.after, Region.binds .any e = true ∧ e.on = i
theorem wpAnyL_first {fin : Nat → Bool} (hfin : finOk ops fin) {D : World → Prop} {K : Act → (World → Prop) → Prop} {i : Nat} {oi : Oper} {v : Value} (hnc : callB oi.op = false) (hi : ops[i]? = some oi) (hev : ev i = false) (hsel : ∀ (j : Nat) (o : Oper) cs b, ops[j]? = some o → o.op ≠ .select cs b) :
    ∀ (fuel : Nat) (listed : Array Bool) (a : Act) (C : World → Prop), Closed ops listed →
      (∀ j oj, ops[j]? = some oj → j ≠ i → listed.getD j true = false → (∀ e ∈ oj.after, Region.binds .any e = true → e.on ≠ i) → oi.apart ops oj = true) →
      (∀ x, C x → D x) →
      i ∈ Region.ready .any ops listed → YldK P ops oi v a D →
      wpAnyL P ops ev fin D K fuel (listed.setIfInBounds i true) (a.put oi.dst v) C → wpAnyL P ops ev fin D K (fuel + 1) listed a C := by
  intro fuel
  induction fuel with
  | zero =>
    intro listed a C _ _ hCD hr hy H
    refine ⟨fun h => (by rw [h] at hr; cases hr), fun j hj => ?_⟩
    by_cases hji : j = i
    · subst hji; rw [if_neg (by simp [hev])]; exact (yldD_toIn hnc hCD hy).qOp hi H
    · have := ready_mono hj hji
      rw [H.1] at this
      cases this
  | succ fuel ih =>
    intro listed a C hcl hfree hCD hr hy H
    refine ⟨fun h => (by rw [h] at hr; cases hr), fun j hj => ?_⟩
    by_cases hji : j = i
    · subst hji; rw [if_neg (by simp [hev])]; exact (yldD_toIn hnc hCD hy).qOp hi H
    · have h1 := H.2 j (ready_mono hj hji)
      obtain ⟨hjun, oj, hoj, hall⟩ := mem_ready.1 hj
      have hiun : listed.getD i false = false := by
        have h0 := (mem_ready.1 hr).1
        rcases Nat.lt_or_ge i listed.size with h' | h'
        · simp [h'] at h0 ⊢; exact h0
        · simp [Array.getElem?_eq_none h'] at h0
      have hnot : ∀ e ∈ oj.after, Region.binds .any e = true → e.on ≠ i := fun e he hb heq => by
        have h1 := hall e he hb
        rw [heq, hiun] at h1; cases h1
      have hfj : fin j = false := by
        cases hfj : fin j with
        | false => rfl
        | true =>
          obtain ⟨e, he, hb, heq⟩ := hfin j oj hoj hfj i (Array.getElem?_eq_some_iff.1 hi).1 (fun e => hji e.symm)
          exact absurd heq (hnot e he hb)
      have hap := hfree j oj hoj hji hjun hnot
      have hfree' : ∀ k ok, ops[k]? = some ok → k ≠ i → (listed.setIfInBounds j true).getD k true = false →
          (∀ e ∈ ok.after, Region.binds .any e = true → e.on ≠ i) → oi.apart ops ok = true := fun k ok hk hki hun hno => by
        refine hfree k ok hk hki ?_ hno
        by_cases hjk : j = k
        · subst hjk; exact hjun
        · rw [getD_set_ne true hjk] at hun; exact hun
      obtain ⟨ap1, ap2, ap3⟩ := Oper.apart_spec hap
      have keep : ∀ (a : Act) u, YldK P ops oi v a D → YldK P ops oi v (a.put oj.dst u) D := fun a u hy =>
        yldK_same hy (execOp_put oi (fun cs b => hsel i oi cs b hi) a oj.dst u ap3) (wanted_put oi a oj.dst u ap3)
      by_cases hej : ev j = true
      · rw [if_pos hej] at h1 ⊢
        intro w hw
        have h2 := wpOp_putE (Y := fun a' => YldK P ops oi v a' D) hoj hap (fun cs b => hsel j oj cs b hoj) keep (fun a d hy => yldK_same hy rfl rfl) hy (h1 w hw)
        refine wpOp_mono (fun a' w' ⟨hy', C', hC', hD', h3⟩ => ⟨C', hC', hD', ih (listed.setIfInBounds j true) a' C' (hcl.set hj) hfree' (hD'.resolve_left (by rw [hfj]; exact Bool.false_ne_true)) (ready_mono hr (Ne.symm hji)) hy' ?_⟩) h2
        rw [Array.setIfInBounds_comm _ _ hji]
        exact h3
      · rw [if_neg hej] at h1 ⊢
        have h2 := qOp_put hoj hap (fun cs b => hsel i oi cs b hi) (fun cs b => hsel j oj cs b hoj) (yldD_toIn hnc hCD hy) h1
        have h2' : qOp P ops C j (fun a' => YldK P ops oi v a' D ∧ wpAnyL P ops ev fin D K fuel ((listed.setIfInBounds i true).setIfInBounds j true) (a'.put oi.dst v) C) a := by
          unfold qOp at h2 ⊢
          simp only [hoj] at h2 ⊢
          split at h2
          · rename_i hw
            rw [if_pos hw]
            obtain ⟨u, hu, _, hn⟩ := h2
            exact ⟨u, hu, keep a u hy, hn⟩
          · rename_i hw
            rw [if_neg hw]
            exact ⟨keep a _ hy, h2.2⟩
        refine qOp_mono (fun a' h3 => ih (listed.setIfInBounds j true) a' C (hcl.set hj) hfree' hCD (ready_mono hr (Ne.symm hji)) h3.1 ?_) h2'
        rw [Array.setIfInBounds_comm _ _ hji]
        exact h3.2
/-- The walk, reads under D. -/
def TXL (P : Program) (ops : Array Oper) (ev : Nat → Bool) (D : World → Prop) (K : Act → (World → Prop) → Prop) : List (Nat × Oper) → Act → (World → Prop) → Prop
  | [], a, C => K a C
  | (i, o) :: r, a, C =>
    if Region.wanted o (yielded ops a.tmps) = true then
      if ev i = true then ∀ w, C w → o.wp P a w (fun a' w' => ∃ C' : World → Prop, C' w' ∧ (r = [] ∨ ∀ x, C' x → D x) ∧ TXL P ops ev D K r a' C') QN
      else ∃ v, YldK P ops o v a D ∧ TXL P ops ev D K r (a.put o.dst v) C
    else TXL P ops ev D K r (a.put o.dst undef) C
theorem wpAnyL_tx {z : Nat} (hfin : finOk ops (fun i => Nat.beq i z)) {D : World → Prop} {K : Act → (World → Prop) → Prop} (hs : Region.noSelect ops = true) : ∀ (l : List (Nat × Oper)) (listed : Array Bool) (a : Act) (C : World → Prop), Closed ops listed → (l ≠ [] → ∀ x, C x → D x) →
    (∀ p ∈ l, ops[p.1]? = some p.2) → (∀ p q, l = p ++ [q] → q.1 = z) →
    chkD ops ev (l.map (·.1)) listed = true → TXL P ops ev D K l a C → wpAnyL P ops ev (fun i => Nat.beq i z) D K l.length listed a C
  | [], _, _, _, _, _, _, _, hB, h => ⟨by simpa [chkD] using hB, h⟩
  | (k, o) :: l, listed, a, C, hcl, hCD, hl, hz, hB, h => by
    have h0 : ops[k]? = some o := hl (k, o) (List.mem_cons_self ..)
    have hl' : ∀ p ∈ l, ops[p.1]? = some p.2 := fun p hp => hl p (List.mem_cons_of_mem _ hp)
    have hz' : ∀ p q, l = p ++ [q] → q.1 = z := fun p q e => hz ((k, o) :: p) q (by rw [e]; rfl)
    have hCD' := hCD (List.cons_ne_nil _ _)
    simp only [List.map_cons, chkD, Bool.and_eq_true] at hB
    obtain ⟨hok, hB'⟩ := hB
    simp only [okDB, h0] at hok
    simp only [TXL] at h
    by_cases hek : ev k = true
    · rw [if_pos hek] at hok
      have hrd : Region.ready .any ops listed = [k] := by simpa using hok
      have hkr : k ∈ Region.ready .any ops listed := by rw [hrd]; simp
      refine ⟨fun h0 => (by rw [hrd] at h0; cases h0), fun i hi => ?_⟩
      rw [hrd] at hi
      obtain rfl : i = k := by simpa using hi
      rw [if_pos hek]
      intro w hw
      unfold wpOp
      simp only [h0]
      split
      · rename_i hwant
        rw [if_pos hwant, if_pos hek] at h
        refine .inl (Oper.wp_mono ?_ (h w hw))
        rintro a' w' ⟨C', hC', hD', ht⟩
        refine ⟨C', hC', hD'.imp (fun e => ?_) _root_.id, wpAnyL_tx hfin hs l _ a' C' (hcl.set hkr) (fun hne => hD'.resolve_left hne) hl' hz' hB' ht⟩
        subst e
        rw [show i = z from hz [] (i, o) rfl]
        exact Nat.beq_refl z
      · rename_i hwant
        rw [if_neg hwant] at h
        exact ⟨C, hw, .inr hCD', wpAnyL_tx hfin hs l _ _ C (hcl.set hkr) (fun _ => hCD') hl' hz' hB' h⟩
    · rw [if_neg hek] at hok
      simp only [Bool.and_eq_true, Bool.not_eq_true'] at hok
      obtain ⟨hr, hf, hnc⟩ := hok
      have hkr : k ∈ Region.ready .any ops listed := by simpa using hr
      by_cases hwant : Region.wanted o (yielded ops a.tmps) = true
      · rw [if_pos hwant, if_neg hek] at h
        obtain ⟨v, hy, ht⟩ := h
        exact wpAnyL_first hfin hnc h0 (by simpa using hek) (Region.noSelect_spec hs) l.length listed a C hcl (Region.free_spec h0 hf) hCD' hkr hy
          (wpAnyL_tx hfin hs l _ _ C (hcl.set hkr) (fun _ => hCD') hl' hz' hB' ht)
      · rw [if_neg hwant] at h
        refine wpAnyL_first hfin (v := undef) hnc h0 (by simpa using hek) (Region.noSelect_spec hs) l.length listed a C hcl (Region.free_spec h0 hf) hCD' hkr ?_
          (wpAnyL_tx hfin hs l _ _ C (hcl.set hkr) (fun _ => hCD') hl' hz' hB' h)
        have hw0 : Region.wanted o (yielded ops a.tmps) = false := by simpa using hwant
        unfold YldK
        split
        · exact .inr ⟨hw0, rfl⟩
        · split
          · exact .inr ⟨hw0, rfl⟩
          · exact .inr ⟨hw0, rfl⟩
def finB (ops : Array Oper) (z : Nat) : Bool := match ops[z]? with
  | none => false
  | some o => (List.range ops.size).all fun i => Nat.beq i z || o.after.any fun e => Region.binds .any e && Nat.beq e.on i
theorem finOk_of {z : Nat} (h : finB ops z = true) : finOk ops (fun i => Nat.beq i z) := by
  intro j oj hj hz i hi hne
  obtain rfl : j = z := Nat.eq_of_beq_eq_true hz
  unfold finB at h
  rw [hj] at h
  have h1 := List.all_eq_true.1 h i (List.mem_range.2 hi)
  rcases Bool.or_eq_true _ _ ▸ h1 with h1 | h1
  · exact absurd (Nat.eq_of_beq_eq_true h1) hne
  · obtain ⟨k, hk, h2⟩ := Array.any_eq_true.1 h1
    rw [Bool.and_eq_true] at h2
    exact ⟨_, Array.getElem_mem hk, h2.1, Nat.eq_of_beq_eq_true h2.2⟩
theorem wp_region_txL {id z : Nat} {Q : Exit → Act → World → Prop} {a : Act} {w : World} {l : List Oper} {C D : World → Prop} (ord : List Nat) (hm : P.follows .mixedOrders = true)
    (hB : (Region.noSelect l.toArray && ((ord ++ [z]).all (fun i => decide (i < l.length)) && (chkD l.toArray ev (ord ++ [z]) (Array.replicate l.length false) && finB l.toArray z))) = true) (hn : (ord ++ [z]).length = l.length) (hC : C { w with drawn := w.drawn + 1 }) (hCD : ∀ x, C x → D x)
    (h : TXL P l.toArray ev D (fun a' C' => ∀ w', C' w' → Q .normal a' w') ((ord ++ [z]).map fun i => (i, l.getD i default)) a C) : (Code.region id l.toArray true).wp P Q a w := by
  simp only [Bool.and_eq_true] at hB
  obtain ⟨hB1, hB2, hB3, hB4⟩ := hB
  refine wp_region_any hm (wpAny_of_L (ev := ev) (fin := fun i => Nat.beq i z) (D := D) (K := fun a' C' => ∀ w', C' w' → Q .normal a' w') (fun _ _ w hw h => h w hw) _ _ _ C _ hC ?_)
  have hlen : ((ord ++ [z]).map fun i => (i, l.getD i default)).length = l.length := by rw [List.length_map, hn]
  have := wpAnyL_tx (P := P) (ops := l.toArray) (ev := ev) (finOk_of hB4) hB1 ((ord ++ [z]).map fun i => (i, l.getD i default)) (Array.replicate l.toArray.size false) a C (closed_none _ _) (fun _ => hCD)
    (fun p hp => by
      obtain ⟨i, hi, rfl⟩ := List.mem_map.1 hp
      have hi' : i < l.length := by simpa using List.all_eq_true.1 hB2 i hi
      show l.toArray[i]? = some (l.getD i default)
      rw [List.getD_eq_getElem?_getD, List.getElem?_eq_getElem hi']
      simp [hi'])
    (fun p q e => by
      rw [List.map_append] at e
      have h1 := List.append_inj_right' e rfl
      injection h1 with h1 _
      rw [← h1])
    (by
      rw [List.map_map]
      have : ((fun x : Nat × Oper => x.1) ∘ fun i => (i, l.getD i default)) = _root_.id := rfl
      rw [this, List.map_id]
      simpa using hB3) h
  rw [hlen] at this
  simpa using this
theorem txl_mono {D : World → Prop} {K K' : Act → (World → Prop) → Prop} (hK : ∀ a C, K a C → K' a C) : ∀ (l : List (Nat × Oper)) (a : Act) (C : World → Prop), TXL P ops ev D K l a C → TXL P ops ev D K' l a C
  | [], _, _, h => hK _ _ h
  | (i, o) :: l, a, C, h => by
    simp only [TXL] at h ⊢
    split
    · rename_i hw
      rw [if_pos hw] at h
      split
      · rename_i he
        rw [if_pos he] at h
        exact fun w hC => Oper.wp_mono (fun a' w' ⟨C', h1, h2, h3⟩ => ⟨C', h1, h2, txl_mono hK l a' C' h3⟩) (h w hC)
      · rename_i he
        rw [if_neg he] at h
        obtain ⟨v, h1, h2⟩ := h
        exact ⟨v, h1, txl_mono hK l _ C h2⟩
    · rename_i hw
      rw [if_neg hw] at h
      exact txl_mono hK l _ C h
theorem txl_reads {D : World → Prop} {K K1 : Act → (World → Prop) → Prop} {wk : Nat → Bool} {r : List (Nat × Oper)} {C : World → Prop} (hK : ∀ a, K1 a D → TXL P ops ev D K r a C) : ∀ (l : List (Nat × Oper)) (k : Nat) (a : Act), (∀ p ∈ l, ev p.1 = false) →
    TX P ops (fun _ => false) wk K1 (l.map (·.2)) k a D → TXL P ops ev D K (l ++ r) a C
  | [], _, a, _, h => hK a h
  | (i, o) :: l, k, a, he, h => by
    have he0 : ev i = false := he (i, o) (List.mem_cons_self ..)
    have he' : ∀ p ∈ l, ev p.1 = false := fun p hp => he p (List.mem_cons_of_mem _ hp)
    simp only [List.map_cons, TX] at h
    simp only [List.cons_append, TXL]
    split
    · rename_i hw
      rw [if_pos hw, if_neg (by simp)] at h
      obtain ⟨v, h1, h2⟩ := h
      rw [if_neg (by simp [he0])]
      exact ⟨v, h1, txl_reads hK l (k + 1) _ he' h2⟩
    · rename_i hw
      rw [if_neg hw] at h
      exact txl_reads hK l (k + 1) _ he' h
end
structure HL (P : Program) (n : Nat) (ds : List Deferred) (ops : Array Oper) (ev : Nat → Bool) (D : World → Prop) (K : Env → (World → Prop) → Prop) (r : List (Nat × Oper)) (e : Env) (C : World → Prop) : Prop where
  out : ∀ a, Has n ds a e → TXL P ops ev D (fun a' C' => ∃ e', Has n ds a' e' ∧ K e' C') r a C
section
variable {P : Program} {n : Nat} {ds : List Deferred} {ops : Array Oper} {ev : Nat → Bool} {D : World → Prop} {K : Env → (World → Prop) → Prop} {r : List (Nat × Oper)} {e : Env} {C : World → Prop} {w0 : World} {F0 : Nat → Prop} {L : List Asn} {Q : Exit → Act → World → Prop}
theorem hl_nil (h : K e C) : HL P n ds ops ev D K [] e C := ⟨fun _ ha => ⟨e, ha, h⟩⟩
/-- Reads, under D. -/
theorem hl_reads (l1 : List (Nat × Oper)) (he : (l1.all fun p => !ev p.1) = true) (h : HX P n ds ops (fun _ => false) (fun _ => false) (fun e' _ => HL P n ds ops ev D K r e' C) (l1.map (·.2)) 0 e D) : HL P n ds ops ev D K (l1 ++ r) e C := ⟨fun _ ha =>
  txl_reads (fun a' ⟨_, h1, h2⟩ => h2.out a' h1) l1 0 _ (fun p hp => by simpa using List.all_eq_true.1 he p hp) (h.out _ ha)⟩
/-- An event, by the rule of its kind; what is left implies D, or it is the last. -/
theorem hl_ev {i : Nat} {o : Oper} (hev : ev i = true) (h : HX P n ds ops (fun _ => true) (fun _ => false) (fun e' C' => (r = [] ∨ ∀ x, C' x → D x) ∧ HL P n ds ops ev D K r e' C') [o] 0 e C) : HL P n ds ops ev D K ((i, o) :: r) e C := ⟨fun a ha => by
  have h1 := h.out a ha
  simp only [TX] at h1
  simp only [TXL]
  by_cases hw : Region.wanted o (yielded ops a.tmps) = true
  · rw [if_pos hw, if_pos trivial] at h1
    rw [if_pos hw, if_pos hev]
    exact fun w hC => Oper.wp_mono (fun a' w' ⟨C', h2, _, e', h3, h4, h5⟩ => ⟨C', h2, h4, h5.out a' h3⟩) (h1 w hC)
  · rw [if_neg hw] at h1 ⊢
    obtain ⟨e', h3, _, h5⟩ := h1
    exact h5.out _ h3⟩
theorem hc_drawL {id : Nat} {l : List Oper} (ev : Nat → Bool) (o1 o2 : List Nat) (z : Nat) (hm : P.follows .mixedOrders = true)
    (hB : (Region.noSelect l.toArray && (((o1 ++ o2) ++ [z]).all (fun i => decide (i < l.length)) && (chkD l.toArray ev ((o1 ++ o2) ++ [z]) (Array.replicate l.length false) && finB l.toArray z))) = true) (hn : ((o1 ++ o2) ++ [z]).length = l.length) (hCD : ∀ x, St w0 F0 L x → D x) (he : (o1.all fun i => !ev i) = true)
    (h : HX P n ds l.toArray (fun _ => false) (fun _ => false) (fun e' _ => HL P n ds l.toArray ev D (fun e' C' => HQ n ds Q .normal e' C') ((o2 ++ [z]).map fun i => (i, l.getD i default)) e' (St w0 F0 L)) (o1.map fun i => l.getD i default) 0 e D) : HC P n ds (Code.region id l.toArray true) Q e (St w0 F0 L) := ⟨fun a w ha hC => by
  refine wp_region_txL (ev := ev) (C := St w0 F0 L) (D := D) (o1 ++ o2) hm hB hn (hC.same (.drew w _ _)) hCD ?_
  have hh : HL P n ds l.toArray ev D (fun e' C' => HQ n ds Q .normal e' C') (((o1 ++ o2) ++ [z]).map fun i => (i, l.getD i default)) e (St w0 F0 L) := by
    rw [List.append_assoc, List.map_append]
    refine hl_reads _ (by rw [List.all_map]; exact he) ?_
    rw [List.map_map]
    exact h
  exact txl_mono (fun a' C' ⟨e', h1, h2⟩ w' hw' => h2.out a' w' h1 hw') _ _ _ (hh.out a ha)⟩
end
section
variable {P : Program} {n : Nat} {ds : List Deferred} {ops : Array Oper} {ev wk : Nat → Bool} {K : Env → (World → Prop) → Prop} {r : List Oper} {o : Oper} {k : Nat} {e : Env} {C : World → Prop}
/-- A byte of a text. -/
theorem h_indexS {t : Nat} {x y : Operand} {s : ByteArray} {q : IntKind} {i : Int} {b : UInt8} (ho : o.op = .index t x y) (hx : e.op x = some (.string s)) (hy : e.op y = some (.int q i)) (hu : P.underlying t = some .string)
    (h0 : 0 ≤ i) (hv : s.data[i.toNat]? = some b) {dd : Nat} (hdst : o.dst = some dd) (hd : okD n (some dd) = true) (h : HX P n ds ops ev wk K r (k + 1) ((dd, .int .u8 (b.toNat : Int)) :: e) C) : HX1 P n ds ops ev wk K o r k e C :=
  hx1_pure (by rw [ho]; rfl) hdst hd (fun a w ha => by
    have h2 : s[i.toNat]? = some b := by
      obtain ⟨h3, h4⟩ := Array.getElem?_eq_some_iff.1 hv
      show (if h : i.toNat < s.size then some s[i.toNat] else none) = some b
      rw [dif_pos (show i.toNat < s.size from h3)]
      exact congrArg some h4
    simp [execOp, ho, ha.eval hx, ha.eval hy, Instr.index, asIntOf, run_und hu, h0, h2]) h
end
section
def chkN (ops : Array Oper) (ev : Nat → Bool) (n : Nat) : Bool := Nat.beq ops.size n && (Region.noSelect ops && (List.range n).all fun k => !ev k && match ops[k]? with
  | some o => (o.after.all fun e => !Region.binds .any e || Nat.blt e.on k) && (List.range n).all fun j => Nat.ble j k || match ops[j]? with
    | some oj => oj.after.any (fun e => Region.binds .any e && e.on == k) || o.apart ops oj
    | none => true
  | none => false)
theorem chkN_from {ops : Array Oper} {ev wk : Nat → Bool} {n : Nat} (hn : ops.size = n) (hev : ∀ k, k < n → ev k = false) (hok : ∀ k, k < n → ∃ o, ops[k]? = some o ∧ (∀ e ∈ o.after, Region.binds .any e = true → e.on < k) ∧ ∀ j, k < j → j < n → ∀ oj, ops[j]? = some oj → (oj.after.any (fun e => Region.binds .any e && e.on == k) || o.apart ops oj) = true) :
    ∀ (m k : Nat) (listed : Array Bool), m + k = n → listed.size = n → (∀ j, j < n → listed[j]? = some (decide (j < k))) → chkFrom ops ev wk m k listed = true
  | 0, k, listed, hmk, hsz, hl => by
    unfold chkFrom
    rw [List.isEmpty_iff, List.eq_nil_iff_forall_not_mem]
    intro i hi
    obtain ⟨h1, o, ho, _⟩ := mem_ready.1 hi
    have hin : i < n := by rw [← hn]; exact (Array.getElem?_eq_some_iff.1 ho).1
    rw [Array.getD_eq_getD_getElem?, hl i hin, decide_eq_true (by omega)] at h1
    cases h1
  | m + 1, k, listed, hmk, hsz, hl => by
    have hk : k < n := by omega
    obtain ⟨o, ho, ha, hj⟩ := hok k hk
    have hgd : ∀ j, j < n → ∀ d, listed.getD j d = decide (j < k) := fun j hjn d => by rw [Array.getD_eq_getD_getElem?, hl j hjn]; rfl
    unfold chkFrom
    rw [Bool.and_eq_true]
    refine ⟨?_, chkN_from hn hev hok m (k + 1) _ (by omega) (by rw [Array.size_setIfInBounds]; exact hsz) (fun j hjn => ?_)⟩
    · unfold okB
      rw [ho]
      dsimp only
      rw [if_neg (by rw [hev k hk]; exact Bool.false_ne_true), Bool.and_eq_true, Bool.and_eq_true]
      refine ⟨⟨?_, ?_⟩, ?_⟩
      · rw [List.contains_iff_mem]
        refine mem_ready.2 ⟨?_, o, ho, fun e he hb => ?_⟩
        · rw [hgd k hk, decide_eq_false (by omega)]
        · have h1 := ha e he hb
          rw [hgd e.on (by omega), decide_eq_true h1]
      · unfold Region.free
        rw [ho]
        dsimp only
        rw [List.all_eq_true]
        intro j hjm
        have hjn : j < n := by rw [← hn]; exact List.mem_range.1 hjm
        by_cases e1 : j = k
        · rw [e1, beq_self_eq_true]; rfl
        · by_cases e2 : j < k
          · rw [hgd j hjn, decide_eq_true e2, Bool.or_true]; rfl
          · have hjs : j < ops.size := by omega
            have := hj j (by omega) hjn ops[j] (Array.getElem?_eq_getElem hjs)
            rw [Array.getElem?_eq_getElem hjs]
            dsimp only
            rw [this, Bool.or_true]
      · rw [List.all_eq_true]
        intro j hjm
        have hjn : j < n := by rw [← hn]; exact List.mem_range.1 hjm
        rw [hev j hjn]
        simp
    · by_cases e1 : j = k
      · rw [e1, Array.getElem?_setIfInBounds_self_of_lt (by omega), decide_eq_true (by omega)]
      · rw [Array.getElem?_setIfInBounds_ne (Ne.symm e1), hl j hjn]
        congr 1
        rw [decide_eq_decide]
        omega
theorem chkB_ofN {ops : Array Oper} {ev wk : Nat → Bool} (n : Nat) (h : chkN ops ev n = true) : chkB ops ev wk = true := by
  unfold chkN at h
  rw [Bool.and_eq_true, Bool.and_eq_true] at h
  obtain ⟨h0, h1, h2⟩ := h
  have hn : ops.size = n := Nat.eq_of_beq_eq_true h0
  have h3 : ∀ k, k < n → _ := fun k hk => List.all_eq_true.1 h2 k (List.mem_range.2 hk)
  unfold chkB
  rw [Bool.and_eq_true]
  refine ⟨h1, chkN_from hn (fun k hk => ?_) (fun k hk => ?_) ops.size 0 _ (by omega) (by rw [Array.size_replicate]; exact hn) (fun j hj => ?_)⟩
  · have := h3 k hk
    rw [Bool.and_eq_true] at this
    simpa using this.1
  · have h4 := h3 k hk
    rw [Bool.and_eq_true] at h4
    have hks : k < ops.size := by omega
    have ho : ops[k]? = some ops[k] := Array.getElem?_eq_getElem hks
    obtain ⟨_, h5⟩ := h4
    rw [ho] at h5
    dsimp only at h5
    rw [Bool.and_eq_true] at h5
    refine ⟨ops[k], ho, fun e he hb => ?_, fun j hkj hjn oj hoj => ?_⟩
    · obtain ⟨i, hi, hei⟩ := Array.mem_iff_getElem.1 he
      have := Array.all_eq_true.1 h5.1 i hi
      rw [hei, hb] at this
      simpa [Nat.blt_eq] using this
    · have := List.all_eq_true.1 h5.2 j (List.mem_range.2 hjn)
      rw [hoj] at this
      dsimp only at this
      rcases Bool.or_eq_true _ _ ▸ this with h6 | h6
      · exact absurd (Nat.le_of_ble_eq_true h6) (by omega)
      · exact h6
  · rw [Array.getElem?_replicate, if_pos (by omega), decide_eq_false (Nat.not_lt_zero _)]
variable {P : Program} {n : Nat} {ds : List Deferred} {e : Env} {w0 : World} {F0 : Nat → Prop} {L : List Asn} {Q : Exit → Act → World → Prop}
theorem hc_drawN {id : Nat} {l : List Oper} (m : Nat) (hm : P.follows .mixedOrders = true) (hB : chkN l.toArray (evQ l.toArray) m = true)
    (h : HX P n ds l.toArray (evQ l.toArray) (wkK l.toArray) (fun e' C' => HQ n ds Q .normal e' C') l 0 e (St w0 F0 L)) : HC P n ds (Code.region id l.toArray true) Q e (St w0 F0 L) := hc_drawQ hm (chkB_ofN m hB) h
end
end Go.Proofs.YtfolhmlldoepfaaGreatDoor
namespace Go.Proofs.YtfolhmlldoepfaaGreatDoor
open Go
section
variable {P : Program} {n : Nat} {ds : List Deferred} {ops : Array Oper} {ev wk : Nat → Bool} {K : Env → (World → Prop) → Prop} {r : List Oper} {o : Oper} {k : Nat} {e : Env} {C : World → Prop} {w1 w0 : World} {F0 : Nat → Prop} {L L' : List Asn}
def ifaceD : TypeDesc → Bool
  | .interface _ => true
  | _ => false
theorem run_taYes {t xT : TypeId} {v : Value} {d : TypeDesc} (hu : P.underlying t = some d) (hni : ifaceD d = false) (w : World) : (Instr.typeAssert (.iface t v) xT t true).run P w = .ok (.tuple #[v, .bool true]) w := by
  simp only [Instr.typeAssert, Sem.run_bind, run_und hu, Result.andThen]
  cases d <;> first | (show Sem.run P (if t = t then _ else _) w = _; rw [if_pos rfl]; rfl) | cases hni
theorem run_taNo {t T xT : TypeId} {v z : Value} {d : TypeDesc} (hu : P.underlying T = some d) (hni : ifaceD d = false) (hne : t ≠ T) (hz : ZeroOf P T z) (w : World) : (Instr.typeAssert (.iface t v) xT T true).run P w = .ok (.tuple #[z, .bool false]) w := by
  obtain ⟨i, h1, h2⟩ := hz
  simp only [Instr.typeAssert, Sem.run_bind, run_und hu, Result.andThen]
  cases d <;> first | (show Sem.run P (if t = T then _ else _) w = _; rw [if_neg hne]; simp [zeroValue, typeInfo, h1, h2]) | cases hni
theorem h_taYes {x : Operand} {xT T : TypeId} {v : Value} {d : TypeDesc} (hev : ev k = true) (ho : o.op = .typeAssert x xT T true) (hx : e.op x = some (.iface T v)) (hu : P.underlying T = some d) (hni : ifaceD d = false)
    {dd : Nat} (hdst : o.dst = some dd) (hd : okD n (some dd) = true) (h : HX P n ds ops ev wk K r (k + 1) ((dd, .tuple #[v, .bool true]) :: e) C) : HX1 P n ds ops ev wk K o r k e C :=
  h_typeAssert hev ho hx (run_taYes hu hni) hdst hd h
theorem h_taNo {x : Operand} {xT t T : TypeId} {v z : Value} {d : TypeDesc} (hev : ev k = true) (ho : o.op = .typeAssert x xT T true) (hx : e.op x = some (.iface t v)) (hne : Nat.beq t T = false) (hu : P.underlying T = some d) (hni : ifaceD d = false) (hz : ZeroOf P T z)
    {dd : Nat} (hdst : o.dst = some dd) (hd : okD n (some dd) = true) (h : HX P n ds ops ev wk K r (k + 1) ((dd, .tuple #[z, .bool false]) :: e) C) : HX1 P n ds ops ev wk K o r k e C :=
  h_typeAssert hev ho hx (run_taNo hu hni (fun e => by subst e; rw [Nat.beq_refl] at hne; cases hne) hz) hdst hd h
/-- A method called through an interface. -/
theorem h_invokeB (hB : But w1 w0 nowhere) (hF : ∀ b, F0 b → w1.heap.size ≤ b) {c : Call} {recv : Operand} {name : String} {t f : Nat} {v0 rv : Value} {vs : List Value} {pre rest : List Asn} {post : Value → List Asn → Prop} (hev : ev k = true) (hwk : wk k = false) (ho : o.op = .call c) (hc : c.callee = .invoke recv name) (hr : e.op recv = some (.iface t v0)) (hvs : e.ops c.args.toList = some vs) (hm : ∀ w, (Go.method (P.types.size + Made.depth) t v0 name).run P w = .ok (f, rv) w)
    {dd : Nat} (hdst : o.dst = some dd) (hd : okD n (some dd) = true) (he : Enters P f) (hpu : Pulls L pre rest) (hs : SpecB P w1 f (rv :: vs) pre post)
    (h : ∀ v M, post v M → HX P n ds ops ev wk K r (k + 1) ((dd, v) :: e) (St w0 F0 (M ++ rest))) : HX1 P n ds ops ev wk K o r k e (St w0 F0 L) :=
  hx1_event hev (fun a w ha hC => by
    have hC' : St w0 F0 (pre ++ rest) w := hC.perm hpu.perm
    unfold Oper.wp
    rw [run_invoke ho hc (ha.eval hr) (ha.evals hvs) (hm w), he]
    obtain ⟨F1, s1, s2, s3⟩ := hC'.callAt
    refine (hs w F1 s1 (hC.butB hB hF) (fun b hb => (s2 b hb).elim (hF b) (fun h => Nat.le_trans hB.size h))).mono ?_
    rintro en w' ⟨v, M, rfl, hp, hSt⟩
    exact ⟨St w0 F0 (M ++ rest), _, s3 M w' hSt, (fun h => by rw [hwk] at h; cases h), (by rw [hdst]; exact ha.put hd v), h v M hp⟩)
/-- .. where nothing earlier is leaned on. -/
theorem h_invokeS {c : Call} {recv : Operand} {name : String} {t f : Nat} {v0 rv : Value} {vs : List Value} {pre rest : List Asn} {post : Value → List Asn → Prop} (hev : ev k = true) (hwk : wk k = false) (ho : o.op = .call c) (hc : c.callee = .invoke recv name) (hr : e.op recv = some (.iface t v0)) (hvs : e.ops c.args.toList = some vs) (hm : ∀ w, (Go.method (P.types.size + Made.depth) t v0 name).run P w = .ok (f, rv) w)
    {dd : Nat} (hdst : o.dst = some dd) (hd : okD n (some dd) = true) (he : Enters P f) (hpu : Pulls L pre rest) (hs : Spec P f (rv :: vs) pre post)
    (h : ∀ v M, post v M → HX P n ds ops ev wk K r (k + 1) ((dd, v) :: e) (St w0 F0 (M ++ rest))) : HX1 P n ds ops ev wk K o r k e (St w0 F0 L) :=
  hx1_event hev (fun a w ha hC => by
    have hC' : St w0 F0 (pre ++ rest) w := hC.perm hpu.perm
    unfold Oper.wp
    rw [run_invoke ho hc (ha.eval hr) (ha.evals hvs) (hm w), he]
    obtain ⟨F1, s1, s2, s3⟩ := hC'.callAt
    refine (hs w F1 s1).mono ?_
    rintro en w' ⟨v, M, rfl, hp, hSt⟩
    exact ⟨St w0 F0 (M ++ rest), _, s3 M w' hSt, (fun h => by rw [hwk] at h; cases h), (by rw [hdst]; exact ha.put hd v), h v M hp⟩)
variable {X : Type} {E : Elem X} {xs : List X}
/-- Loads out of what was known in an earlier world. -/
theorem h_readB (hB : But w1 w0 nowhere) (hF : ∀ b, F0 b → w1.heap.size ≤ b) {t g off i j : Nat} {x : Operand} {d : TypeDesc} {y : X} {v : Value} (ho : o.op = .load t x) (hr : ∀ i x, xs[i]? = some x → ∀ j u, (E.enc x)[j]? = some u → w1.cell? ⟨g, off + i * E.sz + j, none⟩ = some u) (hx : e.op x = some (.pointer (some ⟨g, off + i * E.sz + j, none⟩))) (hu : P.underlying t = some d) (hna : aggD d = false)
    (hi : xs[i]? = some y) (hv : nth (E.enc y) j = some v) {dd : Nat} (hdst : o.dst = some dd) (hd : okD n (some dd) = true) (h : HX P n ds ops ev wk K r (k + 1) ((dd, v) :: e) (St w0 F0 L)) : HX1 P n ds ops ev wk K o r k e (St w0 F0 L) :=
  hx1_read (by rw [ho]; rfl) (by rw [ho]; rfl) hdst hd (fun a w ha hC => by
    have hc := hr i y hi j v (by rw [← nth_eq]; exact hv)
    simp [execOp, ho, ha.eval hx, run_load1 hu hna ((hC.butB hB hF).cell (fun h => h) hc)]) h
theorem h_readB1 (hB : But w1 w0 nowhere) (hF : ∀ b, F0 b → w1.heap.size ≤ b) {t g off i : Nat} {x : Operand} {d : TypeDesc} {y : X} {v : Value} (ho : o.op = .load t x) (hr : ∀ i x, xs[i]? = some x → ∀ j u, (E.enc x)[j]? = some u → w1.cell? ⟨g, off + i * E.sz + j, none⟩ = some u) (hx : e.op x = some (.pointer (some ⟨g, off + i * E.sz, none⟩))) (hu : P.underlying t = some d) (hna : aggD d = false)
    (hi : xs[i]? = some y) (hv : nth (E.enc y) 0 = some v) {dd : Nat} (hdst : o.dst = some dd) (hd : okD n (some dd) = true) (h : HX P n ds ops ev wk K r (k + 1) ((dd, v) :: e) (St w0 F0 L)) : HX1 P n ds ops ev wk K o r k e (St w0 F0 L) :=
  h_readB (j := 0) hB hF ho hr hx hu hna hi hv hdst hd h
theorem h_readBN (hB : But w1 w0 nowhere) (hF : ∀ b, F0 b → w1.heap.size ≤ b) {t g off i : Nat} {x : Operand} {d : TypeDesc} {y : X} {cs : Array Value} (ho : o.op = .load t x) (hr : ∀ i x, xs[i]? = some x → ∀ j u, (E.enc x)[j]? = some u → w1.cell? ⟨g, off + i * E.sz + j, none⟩ = some u) (hx : e.op x = some (.pointer (some ⟨g, off + i * E.sz, none⟩))) (hu : P.underlying t = some d) (hna : aggD d = true) (hs : SizeOf P t E.sz)
    (hi : xs[i]? = some y) (hcs : (E.enc y).toArray = cs) {dd : Nat} (hdst : o.dst = some dd) (hd : okD n (some dd) = true) (h : HX P n ds ops ev wk K r (k + 1) ((dd, .agg cs) :: e) (St w0 F0 L)) : HX1 P n ds ops ev wk K o r k e (St w0 F0 L) :=
  hx1_read (by rw [ho]; rfl) (by rw [ho]; rfl) hdst hd (fun a w ha hC => by
    have hc : ∀ j v, (E.enc y)[j]? = some v → w.cell? ((⟨g, off + i * E.sz, none⟩ : Addr).add j) = some v := fun j v hj => by
      have e1 : (⟨g, off + i * E.sz, none⟩ : Addr).add j = ⟨g, off + i * E.sz + j, none⟩ := by
        unfold Addr.add
        split
        · rename_i h0; rw [h0]; rfl
        · rfl
      rw [e1]
      exact (hC.butB hB hF).cell (fun h => h) (hr i y hi j v hj)
    subst hcs
    simp [execOp, ho, ha.eval hx, run_loadN hu hna hs (E.len y) hc]) h
/-- An array by value, some of its elements told. -/
theorem h_buildP {t el len size : Nat} {ps : Array (Nat × Operand)} {vs : List (Nat × Value)} {zv : Value} {cells : Array Value} (ho : o.op = .build t ps) (hu : P.underlying t = some (.array len el)) (hs : SizeOf P el size) (hz : ZeroOf P t zv) (hvs : e.parts ps.toList = some vs) (hf : Instr.fill (fun i => some (i * size, size)) zv.cells vs = some cells)
    {dd : Nat} (hdst : o.dst = some dd) (hd : okD n (some dd) = true) (h : HX P n ds ops ev wk K r (k + 1) ((dd, .agg cells) :: e) C) : HX1 P n ds ops ev wk K o r k e C :=
  hx1_pure (by rw [ho]; rfl) hdst hd (fun a w ha => by
    have e1 : ps.map (fun (i, x) => (i, a.eval x)) = vs.toArray := by
      rw [← ha.parts hvs]
      exact Array.ext' (by simp)
    simp only [execOp, ho, e1, Instr.build]
    simp [run_zero hz, run_und hu, run_size hs, hf]) h
end
end Go.Proofs.YtfolhmlldoepfaaGreatDoor
