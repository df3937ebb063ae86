import Derived.Test.YtbelfaoolnijiaaEngP
import Derived.Laws.BytesString
import Derived.Laws.MakeOwn
import Derived.Laws.IdiomCopy
import Derived.Lib.ConvBytes
import Derived.Laws.StructEq
import Derived.ChangeKeysEq
import Derived.Defers
import Derived.Recover
namespace Go.Proofs.Ytbelfaoolnijiaa
open Go

/-! ### More operations -/
def byteE : Elem Int where
  sz := 1
  pos := by decide
  enc t := [.int .u8 t]
  len _ := rfl
  one t v hv := by
    simp at hv
    subst hv
    rfl
section
variable {X : Type} {P : Program} {n : Nat} {ds : List Deferred} {ops : Array Oper} {ev wk : Nat → Bool} {K : Env → (World → Prop) → Prop} {r : List Oper} {o : Oper} {k : Nat} {e : Env} {C : World → Prop} {w0 : World} {F0 : Nat → Prop} {L L' : List Asn} {E : Elem X} {T g cap : Nat} {xs : List X}
theorem h_shr {t t2 : TypeId} {x y : Operand} {q q2 : IntKind} {a b : Int} (ho : o.op = .binOp .shr t x y t2) (hx : e.op x = some (.int q a)) (hy : e.op y = some (.int q2 b)) (hb : 0 ≤ b ∧ b ≤ q.bits)
    {dd : Nat} (hdst : o.dst = some dd) (hd : okD n (some dd) = true) (h : HX P n ds ops ev wk K r (k + 1) ((dd, .int q (a / 2 ^ b.toNat)) :: e) C) : HX1 P n ds ops ev wk K o r k e C :=
  hx1_pure (by rw [ho]; rfl) hdst hd (fun a' w ha => by
    simp [execOp, ho, eqGuard, binOp, ha.eval hx, ha.eval hy, shift_shr q q2 a b hb.1 hb.2]) h
theorem h_shl {t t2 : TypeId} {x y : Operand} {q q2 : IntKind} {a b : Int} (ho : o.op = .binOp .shl t x y t2) (hx : e.op x = some (.int q a)) (hy : e.op y = some (.int q2 b)) (hb : 0 ≤ b ∧ b ≤ q.bits)
    {dd : Nat} (hdst : o.dst = some dd) (hd : okD n (some dd) = true) (h : HX P n ds ops ev wk K r (k + 1) ((dd, .int q (q.wrap (a * 2 ^ b.toNat))) :: e) C) : HX1 P n ds ops ev wk K o r k e C :=
  hx1_pure (by rw [ho]; rfl) hdst hd (fun a' w ha => by
    simp [execOp, ho, eqGuard, binOp, ha.eval hx, ha.eval hy, shift_shl q q2 a b hb.1 hb.2]) h
theorem h_bits {op : BinOp} {t t2 : TypeId} {x y : Operand} {q : IntKind} {a b : Int} {v : Value} (ho : o.op = .binOp op t x y t2) (hx : e.op x = some (.int q a)) (hy : e.op y = some (.int q b))
    (hv : (match op with | .xor => some (Value.int q (bits .xor q a b)) | .or => some (.int q (bits .or q a b)) | .and => some (.int q (bits .and q a b)) | _ => none) = some v)
    {dd : Nat} (hdst : o.dst = some dd) (hd : okD n (some dd) = true) (h : HX P n ds ops ev wk K r (k + 1) ((dd, v) :: e) C) : HX1 P n ds ops ev wk K o r k e C :=
  hx1_pure (by rw [ho]; rfl) hdst hd (fun a' w ha => by
    cases op <;> simp at hv <;> subst hv <;> simp [execOp, ho, eqGuard, binOp, ha.eval hx, ha.eval hy, intBits_xor, intBits_or, intBits_and]) h
/-- An element of an array by value. -/
theorem h_index {t el len sz : Nat} {x y : Operand} {d : TypeDesc} {cs : Array Value} {q : IntKind} {i : Int} {v : Value} (ho : o.op = .index t x y) (hx : e.op x = some (.agg cs)) (hy : e.op y = some (.int q i)) (hu : P.underlying t = some (.array len el)) (hu2 : P.underlying el = some d) (hna : aggD d = false) (hs : SizeOf P el sz)
    (h0 : 0 ≤ i ∧ i < len) (hv : cs[i.toNat * sz]? = some v) {dd : Nat} (hdst : o.dst = some dd) (hd : okD n (some dd) = true) (h : HX P n ds ops ev wk K r (k + 1) ((dd, v) :: e) C) : HX1 P n ds ops ev wk K o r k e C :=
  hx1_pure (by rw [ho]; rfl) hdst hd (fun a w ha => by
    simp [execOp, ho, ha.eval hx, ha.eval hy, Instr.index, asIntOf, run_und hu, h0.1, h0.2, run_size hs, part, run_isAgg hu2, hna, hv]) h
/-- The place of an element of an array in memory. -/
theorem h_indexAddrA {t el len b off sz : Nat} {x y : Operand} {q : IntKind} {i : Int} (ho : o.op = .indexAddr t x y) (hx : e.op x = some (.pointer (some ⟨b, off, none⟩))) (hy : e.op y = some (.int q i)) (hu : P.underlying t = some (.array len el)) (hs : SizeOf P el sz)
    (h0 : 0 ≤ i ∧ i < len) {dd : Nat} (hdst : o.dst = some dd) (hd : okD n (some dd) = true) (h : HX P n ds ops ev wk K r (k + 1) ((dd, .pointer (some ⟨b, off + i.toNat * sz, none⟩)) :: e) C) : HX1 P n ds ops ev wk K o r k e C :=
  hx1_pure (by rw [ho]; rfl) hdst hd (fun a w ha => by
    have e1 : (⟨b, off, none⟩ : Addr).add (i.toNat * sz) = ⟨b, off + i.toNat * sz, none⟩ := add_lit _ _ _
    simp [execOp, ho, ha.eval hx, ha.eval hy, Instr.indexAt, asIntOf, run_und hu, h0.1, h0.2, run_size hs, Instr.sureAddr, e1]) h
/-- Several cells of a block are loaded. -/
theorem h_loadP {t b off s : Nat} {x : Operand} {cs cs' : Array Value} {bt : TypeId} {fz : Nat × Nat} {d : TypeDesc} (ho : o.op = .load t x) (hx : e.op x = some (.pointer (some ⟨b, off, none⟩))) (hu : P.underlying t = some d) (hna : aggD d = true) (hs : SizeOf P t s)
    (hp : Pull L (Blk b (.cells cs bt fz)) L') (hl : Nat.ble (off + s) cs.toList.length = true) (hcs : ((cs.toList.drop off).take s).toArray = cs') {dd : Nat} (hdst : o.dst = some dd) (hd : okD n (some dd) = true) (h : HX P n ds ops ev wk K r (k + 1) ((dd, .agg cs') :: e) (St w0 F0 L)) : HX1 P n ds ops ev wk K o r k e (St w0 F0 L) := by
  have hl' := Nat.le_of_ble_eq_true hl
  subst hcs
  exact h_loadN (vs := (cs.toList.drop off).take s) ho hx hu hna hs hp (by rw [List.length_take, List.length_drop]; omega) (fun j v hj => by
    have hjs : j < s := by
      have := (List.getElem?_eq_some_iff.1 hj).1
      rw [List.length_take] at this
      omega
    rw [List.getElem?_take_of_lt hjs, List.getElem?_drop] at hj
    simpa using hj) hdst hd h
/-- make([]T, l, c). -/
theorem h_makeSlice (E : Elem X) {t T by_ : Nat} {x y : Operand} {kl kc : IntKind} {l c : Nat} {zv : Value} (z : X) (hev : ev k = true) (ho : o.op = .makeSlice t x y) (hx : e.op x = some (.int kl (l : Int))) (hy : e.op y = some (.int kc (c : Int))) (hu : P.underlying t = some (.slice T)) (hi : ∃ i, P.info? T = some i ∧ i.size = E.sz ∧ i.bytes = by_ ∧ i.zero = some zv) (hz : zv.cells.toList = E.enc z)
    (hlc : l ≤ c) (hm : c ≤ maxLen) (hbytes : by_ * c ≤ 140737488355328) {dd : Nat} (hdst : o.dst = some dd) (hd : okD n (some dd) = true)
    (h : ∀ b, HX P n ds ops ev wk K r (k + 1) ((dd, .slice (some ⟨b, 0, none⟩) l c) :: e) (St w0 F0 (Row E T b c (List.replicate l z) :: L))) : HX1 P n ds ops ev wk K o r k e (St w0 F0 L) :=
  hx1_event hev (fun a w ha hC => by
    obtain ⟨i, i1, i2, i3, i4⟩ := hi
    have hb' : (i.bytes : Int) * (c : Int) ≤ 281474976710656 := by
      have h1 : ((i.bytes * c : Nat) : Int) ≤ 281474976710656 := by rw [i3]; omega
      rwa [Int.natCast_mul] at h1
    have h63' : (c : Int) ≤ 9223372036854775807 := by simp only [maxLen] at hm; omega
    have hr := run_make (P := P) w t T i zv hu i1 i4 kl kc (l : Int) (c : Int) (by omega) (by omega) hb' h63'
    simp only [Int.toNat_natCast] at hr
    unfold Oper.wp
    have : (execOp a.eval o).run P w = .ok (.value (.slice (some ⟨w.heap.size, 0, none⟩) l c)) (w.alloc (.cells (madeCells zv.cells (c * i.size)) T)) := by
      simp [execOp, ho, ha.eval hx, ha.eval hy, hr]
    rw [this]
    refine ⟨_, _, ?_, fun _ _ hh => hh.drop, (by rw [hdst]; exact ha.put hd _), h _⟩
    refine (hC.new _).map (A := Blk w.heap.size (.cells (madeCells zv.cells (c * i.size)) T (0, 0))) (B := Row E T w.heap.size c (List.replicate l z)) fun F hp => ?_
    obtain ⟨p1, p2⟩ := hp
    refine ⟨p1, _, p2, by simpa using hlc, hm, by rw [size_madeCells, i2], fun j q hq jj u hj => ?_⟩
    have hjl : j < l := by
      have := (List.getElem?_eq_some_iff.1 hq).1
      simpa using this
    have hqz : q = z := by
      rw [List.getElem?_replicate, if_pos hjl] at hq
      exact (Option.some.inj hq).symm
    subst hqz
    have hjs : jj < E.sz := by
      have := (List.getElem?_eq_some_iff.1 hj).1
      rwa [E.len] at this
    have hzs : zv.cells.size = E.sz := by rw [← E.len q, ← hz]; simp
    have hlt : j * E.sz + jj < c * i.size := by rw [i2]; exact row_lt (by omega) hjs
    have hmod : (j * E.sz + jj) % E.sz = jj := by rw [Nat.mul_comm, Nat.mul_add_mod, Nat.mod_eq_of_lt hjs]
    rw [← hz] at hj
    simp only [madeCells, Array.getElem?_map, Array.getElem?_range, hlt, if_true, Option.map_some, hzs, hmod]
    have : zv.cells[jj]? = some u := by simpa using hj
    simp [getElem!_def, this])
/-- copy(d, s) of bytes, d an array of its own. -/
theorem h_copy {g cap T sT : Nat} {x y : Operand} {t : Nat} {v : Value} {xs ys : List Int} (hev : ev k = true) (hwk : wk k = false) (ho : o.op = .call { callee := .builtin .copy, args := #[x, y], argTypes := #[t, sT] }) (hp : Pull L (Row byteE T g cap xs) L') (hx : e.op x = some (.slice (some ⟨g, 0, none⟩) xs.length cap)) (hy : e.op y = some v) (hu : P.underlying t = some (.slice T)) (hs : SizeOf P T 1)
    (hr : ∀ w, St w0 F0 L w → Rd byteE w v ys) {dd : Nat} (hdst : o.dst = some dd) (hd : okD n (some dd) = true)
    (h : HX P n ds ops ev wk K r (k + 1) ((dd, .int .i64 ((min ys.length xs.length : Nat) : Int)) :: e) (St w0 F0 (Row byteE T g cap (ys.take xs.length ++ xs.drop ys.length) :: L'))) : HX1 P n ds ops ev wk K o r k e (St w0 F0 L) :=
  hx1_event hev (fun a w ha hC => by
    obtain ⟨ya, yc, rfl, y1, y2, y3⟩ := hr w hC
    have hC' := hC.perm hp.perm
    have hs' : (P.info? T).map (·.size) = some 1 := by
      obtain ⟨i, h1, h2⟩ := hs
      rw [h1]; simp [h2]
    by_cases h0 : Nat.min ys.length xs.length = 0
    · have hrun := run_copy_none (P := P) w t sT o.type T (some ⟨g, 0, none⟩) ya xs.length cap ys.length yc hu hs' h0
      have : (execOp a.eval o).run P w = .ok (.value (goInt 0)) w := by
        simp [execOp, ho, resolve, invoke, builtin, ha.eval hx, ha.eval hy, hrun]
      unfold Oper.wp
      rw [this]
      refine ⟨_, _, ?_, (fun h => by rw [hwk] at h; cases h), (by rw [hdst]; exact ha.put hd _), (by
        have hm : min ys.length xs.length = 0 := h0
        rw [hm] at h
        exact h)⟩
      have e1 : ys.take xs.length ++ xs.drop ys.length = xs := by
        have : min ys.length xs.length = 0 := h0
        rcases Nat.eq_zero_or_pos ys.length with e | e
        · have : ys = [] := List.eq_nil_of_length_eq_zero e
          subst this
          simp
        · have : xs = [] := List.eq_nil_of_length_eq_zero (by omega)
          subst this
          simp
      rw [e1]
      exact hC'
    · have hy0 : ys ≠ [] := fun e => h0 (by subst e; simp)
      obtain ⟨g2, off2, rfl, hc⟩ := y3.resolve_left hy0
      obtain ⟨F1, hrow, hput⟩ := hC'.split1
      obtain ⟨h1, cur, hb, h3, h4, h5, h6⟩ := id hrow
      have h5' : cur.size = cap := by rw [h5]; exact Nat.mul_one _
      obtain ⟨cs, hcs⟩ : ∃ cs, cs = (ys.take xs.length).map (Value.int .u8) := ⟨_, rfl⟩
      have hcl : cs.length = Nat.min ys.length xs.length := by rw [hcs, List.length_map, List.length_take]; exact Nat.min_comm _ _
      have hcl' : cs.length ≤ xs.length := by rw [hcl]; exact Nat.min_le_right _ _
      have hrun := run_copy_row (P := P) w t sT o.type T g 0 xs.length cap ⟨g2, off2, none⟩ ys.length yc cur T cs hu hs' hb hcl (fun j u hj => by
        rw [hcs, List.getElem?_map] at hj
        cases hq : (ys.take xs.length)[j]? with
        | none => rw [hq] at hj; cases hj
        | some q =>
          rw [hq] at hj
          injection hj with hj
          subst hj
          rw [add_lit]
          have hq' : ys[j]? = some q := by
            rw [List.getElem?_take] at hq
            split at hq
            · exact hq
            · cases hq
          have := hc j q hq' 0 (.int .u8 q) rfl
          simpa [byteE] using this) (by omega) (fun u hu => by
        rw [hcs] at hu
        obtain ⟨q, _, rfl⟩ := List.mem_map.1 hu
        rfl)
      have : (execOp a.eval o).run P w = .ok (.value (goInt cs.length)) (w.setRow g (cur.toList.take 0 ++ cs ++ cur.toList.drop (0 + cs.length)).toArray) := by
        simp [execOp, ho, resolve, invoke, builtin, ha.eval hx, ha.eval hy, hrun]
      unfold Oper.wp
      rw [this]
      refine ⟨_, _, hput _ [Row byteE T g cap (ys.take xs.length ++ xs.drop ys.length)] ?_, (fun h => by rw [hwk] at h; cases h), (by rw [hdst]; exact ha.put hd _), (by
        have e2 : goInt cs.length = .int .i64 ((min ys.length xs.length : Nat) : Int) := by rw [hcl]; rfl
        rw [e2]
        exact h)⟩
      refine st_one (G := fun x => x = g) ?_ ⟨rfl, rfl, rfl, by simp, fun j hj hn => setRow_other _ _ _ _ (fun e0 => hn (by rw [e0]; exact (h1 g).2 rfl))⟩ (fun x hx => .inl ((h1 x).2 hx))
      refine ⟨fun _ => Iff.rfl, _, setRow_heap _ _ _ _ _ _ hb, ?_, h4, ?_, fun j q hq jj u hj => ?_⟩
      · rw [List.length_append, List.length_take, List.length_drop]; omega
      · simp only [List.size_toArray, List.length_append, List.length_take, List.length_drop, Array.length_toList, h5']
        show _ = cap * 1
        omega
      · have hjj : jj = 0 := by
          have := (List.getElem?_eq_some_iff.1 hj).1
          have h2 : (byteE.enc q).length = 1 := rfl
          omega
        subst hjj
        have hu' : u = .int .u8 q := by simpa [byteE] using hj.symm
        subst hu'
        show (cur.toList.take 0 ++ cs ++ cur.toList.drop (0 + cs.length)).toArray[j * 1 + 0]? = _
        simp only [List.take_zero, List.nil_append, Nat.mul_one, Nat.add_zero, Nat.zero_add, List.getElem?_toArray]
        rcases Nat.lt_or_ge j cs.length with hlt | hge
        · rw [List.getElem?_append_left hlt, hcs, List.getElem?_map]
          rw [List.getElem?_append_left (by rw [hcs, List.length_map] at hlt; exact hlt)] at hq
          rw [hq]
          rfl
        · rw [List.getElem?_append_right hge, List.getElem?_drop]
          have htl : (ys.take xs.length).length = cs.length := by rw [hcs, List.length_map]
          rw [List.getElem?_append_right (by rw [htl]; exact hge), htl, List.getElem?_drop] at hq
          have hlen2 : ys.length ≤ xs.length ∨ xs.length < ys.length := by omega
          have hjx : xs[j]? = some q := by
            rw [← hq]
            congr 1
            have hcl2 : cs.length = min ys.length xs.length := hcl
            rcases hlen2 with h2 | h2
            · omega
            · exfalso
              have := (List.getElem?_eq_some_iff.1 hq).1
              omega
          have := h6 j q hjx 0 (.int .u8 q) rfl
          have e3 : cs.length + (j - cs.length) = j := by omega
          rw [e3]
          simpa [byteE] using this)
/-- string(b). -/
def strOf (ns : List Int) : ByteArray := ns.foldl (fun r n => r.push (UInt8.ofNat n.toNat)) ByteArray.empty
theorem h_toString {src dst el : TypeId} {x : Operand} {v : Value} {xs : List Int} (ho : o.op = .convert src dst x) (hx : e.op x = some v) (hu : P.underlying src = some (.slice el)) (hu2 : P.underlying dst = some .string) (hu3 : P.underlying el = some (.int .u8))
    (hr : ∀ w, C w → Rd byteE w v xs)
    {dd : Nat} (hdst : o.dst = some dd) (hd : okD n (some dd) = true) (h : HX P n ds ops ev wk K r (k + 1) ((dd, .string (strOf xs)) :: e) C) : HX1 P n ds ops ev wk K o r k e C :=
  hx1_read (by rw [ho]; rfl) (by rw [ho]; rfl) hdst hd (fun a w ha hC => by
    obtain ⟨ya, yc, rfl, y1, y2, y3⟩ := hr w hC
    have key : (Conv.bytesToString (.slice ya xs.length yc)).run P w = .ok (.string (strOf xs)) w := by
      cases ya with
      | none =>
        have : xs = [] := by
          rcases y3 with h | ⟨g, off, h, _⟩
          · exact h
          · cases h
        subst this
        rfl
      | some a0 =>
        refine run_bytesToString w a0 xs.length yc xs ?_
        have := run_loadCells_list (P := P) w a0 (xs.map (Value.int .u8)) (fun j u hj => by
          rw [List.getElem?_map] at hj
          cases hq : xs[j]? with
          | none => rw [hq] at hj; cases hj
          | some q =>
            rw [hq] at hj
            injection hj with hj
            subst hj
            rcases y3 with h | ⟨g, off, h, hc⟩
            · subst h; cases hq
            · injection h with h
              subst h
              rw [add_lit]
              have := hc j q hq 0 (.int .u8 q) rfl
              simpa [byteE] using this)
        simpa using this
    simp [execOp, ho, ha.eval hx, convert, run_und hu, run_und hu2, run_und hu3, key]) h
/-- append(s, d...), d a slice that can be read. -/
theorem h_appendRd {x y : Operand} {t by_ : Nat} {zv : Value} {v vy : Value} {ys : List X} (hev : ev k = true) (hwk : wk k = false)
    (ho : o.op = .call { callee := .builtin .append, args := #[x, y], argTypes := #[t, t] }) (hx : e.op x = some v) (hy : e.op y = some vy) (hu : P.underlying t = some (.slice T)) (hi : ∃ i, P.info? T = some i ∧ i.size = E.sz ∧ i.bytes = by_ ∧ i.zero = some zv) (hzv : zv.cells.size = E.sz)
    (hp : Pull L (RowV E T v xs) L') (hr : ∀ w, St w0 F0 L w → Rd E w vy ys) (hy0 : ys ≠ [])
    (h63 : xs.length + ys.length ≤ maxLen) (hbytes : (xs.length + ys.length) * by_ ≤ 140737488355328) {dd : Nat} (hdst : o.dst = some dd) (hd : okD n (some dd) = true)
    (h : ∀ v', HX P n ds ops ev wk K r (k + 1) ((dd, v') :: e) (St w0 F0 (RowV E T v' (xs ++ ys) :: L'))) : HX1 P n ds ops ev wk K o r k e (St w0 F0 L) :=
  hx1_event hev (fun a w ha hC => by
    obtain ⟨ya, yc, rfl, y1, y2, y3⟩ := hr w hC
    obtain ⟨gb, ob, rfl, hcell⟩ := y3.resolve_left hy0
    have hC' : St w0 F0 (RowV E T v xs :: L') w := hC.perm hp.perm
    obtain ⟨F1, hrow, hput⟩ := hC'.split1
    obtain ⟨i, i1, i2, i3, i4⟩ := hi
    obtain ⟨fl, hown, hfl, hF1⟩ := RowV.owns hrow
    have hnl : (ys.flatMap E.enc).length = ys.length * E.sz := enc_len E ys
    have hnc : ∀ j u, (ys.flatMap E.enc)[j]? = some u → w.cell? ((⟨gb, ob, none⟩ : Addr).add j) = some u := fun j u hj => by
      obtain ⟨i, q, j', h1, h2, rfl⟩ := enc_of E _ _ _ hj
      rw [add_lit, ← Nat.add_assoc]
      exact hcell i q h1 j' u h2
    have h1c : ∀ u ∈ ys.flatMap E.enc, u.oneCell' = true := fun u hu => by
      obtain ⟨q, _, hq⟩ := List.mem_flatMap.1 hu
      exact E.one q u hq
    obtain ⟨v', w', hrun, hown', hgr, hnil⟩ := run_append_own (P := P) (w := w) 0 t o.type T i zv E.sz by_ hu i1 i4 i2 i3 hzv E.pos v xs.length fl hown ⟨gb, ob, none⟩ ys.length yc (ys.flatMap E.enc) hnl hnc h1c h63 hbytes (Nat.zero_le _)
    have : (execOp a.eval o).run P w = .ok (.value v') w' := by
      simp [execOp, ho, resolve, invoke, builtin, ha.eval hx, ha.eval hy, hrun]
    unfold Oper.wp
    rw [this]
    refine ⟨_, _, hput w' [RowV E T v' (xs ++ ys)] ?_, (fun h => by rw [hwk] at h; cases h), by rw [hdst]; exact ha.put hd v', h v'⟩
    have hown2 : w'.ownsRow 0 T E.sz v' (xs ++ ys).length (fl ++ ys.flatMap E.enc) := by rw [List.length_append]; exact hown'
    have hnew := RowV.of_owns (E := E) (xs := xs ++ ys) hown2 (fun i q hq j u hj => by
      have hjs : j < E.sz := by
        have := (List.getElem?_eq_some_iff.1 hj).1
        rwa [E.len] at this
      rcases Nat.lt_or_ge i xs.length with hlt | hge
      · rw [List.getElem?_append_left hlt] at hq
        rw [List.getElem?_append_left (by rw [hown.1]; exact row_lt hlt hjs)]
        exact hfl i q hq j u hj
      · rw [List.getElem?_append_right hge] at hq
        have hle : fl.length ≤ i * E.sz + j := by rw [hown.1]; exact Nat.le_trans (Nat.mul_le_mul_right _ hge) (Nat.le_add_right _ _)
        rw [List.getElem?_append_right hle, hown.1]
        have := enc_at E ys (i - xs.length) q hq j u hj
        rw [← this]
        congr 1
        rw [Nat.sub_mul]
        have := Nat.mul_le_mul_right E.sz hge
        omega)
    refine st_one hnew ⟨hgr.os, hgr.tape, hgr.output, hgr.size, fun j hj hn => hgr.block j hj fun e => hn ((hF1 j).1 e.symm)⟩ (fun x hx => ?_)
    rcases append_block (P := P) hu i1 i4 i2 i3 hzv E.pos hown hnl hnc h1c h63 hbytes hrun x hx with h | h
    · exact .inl ((hF1 x).1 h)
    · exact .inr h)
/-- A conversion that only marks an array. -/
theorem h_convMark {t el b len cap : Nat} {x : Operand} {cs : Array Value} {bt : TypeId} (hev : ev k = true) (hwk : wk k = false) (ho : o.op = .convert t t x) (hx : e.op x = some (.slice (some ⟨b, 0, none⟩) len cap)) (hu : P.underlying t = some (.slice el)) (hu3 : P.underlying el = some (.int .u8))
    (hp : Pull L (Blk b (.cells cs bt (0, 0))) L') {dd : Nat} (hdst : o.dst = some dd) (hd : okD n (some dd) = true)
    (h : ∀ fz, HX P n ds ops ev wk K r (k + 1) ((dd, .slice (some ⟨b, 0, none⟩) len cap) :: e) (St w0 F0 (Blk b (.cells cs bt fz) :: L'))) : HX1 P n ds ops ev wk K o r k e (St w0 F0 L) :=
  hx1_event hev (fun a w ha hC => by
    have hC' := hC.perm hp.perm
    have hb := hC'.blk
    have hsh : w.shape? b = some (bt, cs.size) := by simp [World.shape?, hb]
    have hrun : (execOp a.eval o).run P w = .ok (.value (.slice (some ⟨b, 0, none⟩) len cap)) (w.freeze ⟨b, cs.size, none⟩ 1) := by
      simp [execOp, ho, ha.eval hx, convert, run_und hu, run_und hu3, markStringish, hsh, Result.andThen]
    unfold Oper.wp
    rw [hrun]
    refine ⟨_, _, hC'.put (o' := .cells cs bt (cs.size, cs.size + 1)) ⟨rfl, rfl, rfl, by simp [World.freeze], fun j hj hn => by
      show (w.heap.modify b _)[j]? = _
      rw [Array.getElem?_modify, if_neg (fun h => hn h.symm)]⟩ ?_, (fun h => by rw [hwk] at h; cases h), (by rw [hdst]; exact ha.put hd _), h _⟩
    simp [World.freeze, Array.getElem?_modify, hb])
end
end Go.Proofs.Ytbelfaoolnijiaa
namespace Go.Proofs.Ytbelfaoolnijiaa
open Go

/-! ### Structs of ints: compared -/
def ints (xs : List Int) : Array Value := (xs.map (Value.int .i64)).toArray
theorem ints_size (xs : List Int) : (ints xs).size = xs.length := by simp [ints]
theorem ints_get {xs : List Int} {i : Nat} {x : Int} (h : xs[i]? = some x) : (ints xs)[i]? = some (.int .i64 x) := by simp [ints, h]
/-- Fields of one int each, from the place k on. -/
def IntFields (P : Program) : Nat → List Field → Prop
  | _, [] => True
  | k, f :: fs => f.name ≠ "_" ∧ f.offset = k ∧ P.underlying f.type = some (.int .i64) ∧ IntFields P (k + 1) fs
theorem eqFields_ints {P : Program} {w : World} {d : Nat} {gs : List Field} {xs ys : List Int} : ∀ (fs : List Field) (k : Nat), IntFields P k fs → k + fs.length ≤ xs.length → k + fs.length ≤ ys.length →
    (Op.eqFields (d + 1) (ints xs) (ints ys) (fs ++ gs)).run P w = if (xs.drop k).take fs.length = (ys.drop k).take fs.length then (Op.eqFields (d + 1) (ints xs) (ints ys) gs).run P w else .ok false w
  | [], _, _, _, _ => by simp
  | f :: fs, k, ⟨h1, h2, h3, h4⟩, hx, hy => by
    simp only [List.length_cons] at hx hy
    have ex : xs[k]? = some xs[k] := List.getElem?_eq_getElem (by omega)
    have ey : ys[k]? = some ys[k] := List.getElem?_eq_getElem (by omega)
    have p0 : P.plainKey f.type = true := by simp [Program.plainKey, h3]
    have r1 : (part f.type (ints xs) f.offset).run P w = .ok (.int .i64 xs[k]) w := run_part_plain w p0 (by rw [h2]; exact ints_get ex)
    have r2 : (part f.type (ints ys) f.offset).run P w = .ok (.int .i64 ys[k]) w := run_part_plain w p0 (by rw [h2]; exact ints_get ey)
    have r3 := run_equalIn_int (P := P) w d f.type .i64 .i64 xs[k] ys[k] h3
    have ih := eqFields_ints (w := w) (d := d) (gs := gs) (xs := xs) (ys := ys) fs (k + 1) h4 (by omega) (by omega)
    have dx : (xs.drop k).take (fs.length + 1) = xs[k] :: (xs.drop (k + 1)).take fs.length := by rw [List.drop_eq_getElem_cons (by omega), List.take_succ_cons]
    have dy : (ys.drop k).take (fs.length + 1) = ys[k] :: (ys.drop (k + 1)).take fs.length := by rw [List.drop_eq_getElem_cons (by omega), List.take_succ_cons]
    rw [List.cons_append]
    simp only [Op.eqFields, h1, ne_eq, not_false_eq_true, if_true, Sem.run_bind, r1, r2, r3, Result.andThen_ok, List.length_cons, dx, dy]
    by_cases he : xs[k] = ys[k]
    · simp [he, ih]
    · simp [he]
/-- A struct type whose n cells are ints. -/
class QC (P : Program) (t n : Nat) : Prop where
  guard : P.eqGuardType P.depth t = false
  out : ∀ (xs ys : List Int) (w : World), xs.length = n → ys.length = n → (Op.equalIn 10000 t (.agg (ints xs)) (.agg (ints ys))).run P w = .ok (decide (xs = ys)) w
theorem QC.flat {P : Program} {t n : Nat} (hg : P.eqGuardType P.depth t = false) (hu : P.underlying t = some (.struct (P.fieldsOf t))) (hp : P.stoodInHeld t = false) (hn : (P.fieldsOf t).toList.length = n) (hf : IntFields P 0 (P.fieldsOf t).toList) : QC P t n := ⟨hg, fun xs ys w hx hy => by
  rw [run_equalIn_struct w 9999 t _ _ hu hp]
  have := eqFields_ints (w := w) (d := 9998) (gs := []) (xs := xs) (ys := ys) _ 0 hf (by omega) (by omega)
  rw [List.append_nil] at this
  rw [this, List.drop_zero, List.drop_zero, hn, List.take_of_length_le (by omega), List.take_of_length_le (by omega)]
  by_cases h : xs = ys <;> simp [h, Op.eqFields]⟩
/-- .. whose last field is such a struct, of ints too. -/
theorem QC.last {P : Program} {t n m : Nat} {fs : List Field} {f : Field} (hg : P.eqGuardType P.depth t = false) (hu : P.underlying t = some (.struct (P.fieldsOf t))) (hp : P.stoodInHeld t = false) (he : (P.fieldsOf t).toList = fs ++ [f]) (hn : fs.length = n) (hf : IntFields P 0 fs)
    (h1 : f.name ≠ "_") (h2 : f.offset = n) (hs : SizeOf P f.type m) (hu2 : P.underlying f.type = some (.struct (P.fieldsOf f.type))) (hp2 : P.stoodInHeld f.type = false) (hn2 : (P.fieldsOf f.type).toList.length = m) (hf2 : IntFields P 0 (P.fieldsOf f.type).toList) : QC P t (n + m) := ⟨hg, fun xs ys w hx hy => by
  rw [run_equalIn_struct w 9999 t _ _ hu hp, he]
  have := eqFields_ints (w := w) (d := 9998) (gs := [f]) (xs := xs) (ys := ys) fs 0 hf (by omega) (by omega)
  rw [this, List.drop_zero, List.drop_zero, hn]
  have hpart : ∀ (zs : List Int), zs.length = n + m → (part f.type (ints zs) f.offset).run P w = .ok (.agg (ints (zs.drop n))) w := fun zs hz => by
    have e1 : (ints zs).extract f.offset (f.offset + m) = ints (zs.drop n) := by
      rw [h2]
      apply Array.ext'
      simp only [ints, Array.toList_extract, List.extract]
      rw [List.map_drop, List.take_of_length_le (by simp; omega)]
    simp [part, run_isAgg hu2, aggD, run_size hs, e1]
  have hin : (Op.equalIn (9997 + 1 + 1) f.type (.agg (ints (xs.drop n))) (.agg (ints (ys.drop n)))).run P w = .ok (decide (xs.drop n = ys.drop n)) w := by
    rw [run_equalIn_struct w 9998 f.type _ _ hu2 hp2]
    have := eqFields_ints (w := w) (d := 9997) (gs := []) (xs := xs.drop n) (ys := ys.drop n) _ 0 hf2 (by rw [List.length_drop]; omega) (by rw [List.length_drop]; omega)
    rw [List.append_nil] at this
    rw [this, List.drop_zero, List.drop_zero, hn2, List.take_of_length_le (by rw [List.length_drop]; omega), List.take_of_length_le (by rw [List.length_drop]; omega)]
    by_cases h : xs.drop n = ys.drop n <;> simp [h, Op.eqFields]
  have hsplit : xs = ys ↔ xs.take n = ys.take n ∧ xs.drop n = ys.drop n := by
    constructor
    · rintro rfl; exact ⟨rfl, rfl⟩
    · rintro ⟨a, b⟩
      rw [← List.take_append_drop n xs, ← List.take_append_drop n ys, a, b]
  by_cases ha : xs.take n = ys.take n
  · simp only [ha, if_true, Op.eqFields, h1, ne_eq, not_false_eq_true, Sem.run_bind, hpart xs hx, hpart ys hy, Result.andThen_ok, hin]
    by_cases hb : xs.drop n = ys.drop n
    · simp [hb, hsplit, ha]
    · simp [hb, hsplit]
  · simp [ha, hsplit]⟩
section
variable {P : Program} {n : Nat} {ds : List Deferred} {ops : Array Oper} {ev wk : Nat → Bool} {K : Env → (World → Prop) → Prop} {r : List Oper} {o : Oper} {k : Nat} {e : Env} {C : World → Prop} {w0 : World} {F0 : Nat → Prop} {L L' : List Asn}
theorem h_eqS {op : BinOp} {t t2 m : Nat} {x y : Operand} {u1 u2 : Array Value} {v : Value} (xs ys : List Int) (ho : o.op = .binOp op t x y t2) (hx : e.op x = some (.agg u1)) (hy : e.op y = some (.agg u2)) (h1 : u1 = ints xs) (h2 : u2 = ints ys) (hq : QC P t m) (hl1 : Nat.beq xs.length m = true) (hl2 : Nat.beq ys.length m = true)
    (hv : (match op with | .eql => some (Value.bool (decide (xs = ys))) | .neq => some (.bool (decide (xs ≠ ys))) | _ => none) = some v)
    {dd : Nat} (hdst : o.dst = some dd) (hd : okD n (some dd) = true) (h : HX P n ds ops ev wk K r (k + 1) ((dd, v) :: e) C) : HX1 P n ds ops ev wk K o r k e C :=
  hx1_pure (by rw [ho]; rfl) hdst hd (fun a' w ha => by
    subst h1 h2
    have hout := hq.out xs ys w (Nat.eq_of_beq_eq_true hl1) (Nat.eq_of_beq_eq_true hl2)
    cases op <;> simp at hv <;> subst hv
    · simp only [execOp, ho, ha.eval hx, ha.eval hy, Sem.run_bind, run_eqGuard_agg w _ _ _ _ _ _ hq.guard, Result.andThen_ok, run_eql_struct, hout]
      rfl
    · simp only [execOp, ho, ha.eval hx, ha.eval hy, Sem.run_bind, run_eqGuard_agg w _ _ _ _ _ _ hq.guard, Result.andThen_ok, run_neq_struct, hout]
      by_cases h : xs = ys <;> simp [h]) h
/-- nil == nil, of an interface without methods. -/
theorem h_eqIface {t t2 : TypeId} {x : Operand} (ho : o.op = .binOp .eql t x (.const .nilIface) t2) (hx : e.op x = some .nilIface) (hu : P.underlying t = some (.interface #[]))
    {dd : Nat} (hdst : o.dst = some dd) (hd : okD n (some dd) = true) (h : HX P n ds ops ev wk K r (k + 1) ((dd, .bool true) :: e) C) : HX1 P n ds ops ev wk K o r k e C :=
  hx1_pure (by rw [ho]; rfl) hdst hd (fun a' w ha => by
    have e1 : (Op.equal t .nilIface .nilIface).run P w = .ok true w := by
      show Sem.run P (Op.equalIn (9999 + 1) t _ _) w = _
      rw [Op.equalIn]
      simp [run_und hu]
    have hy : a'.eval (.const .nilIface) = .nilIface := rfl
    simp [execOp, ho, eqGuard, binOp, ha.eval hx, hy, e1]) h
end

/-! ### Results, in slots or in cells -/
def RVal (P : Program) (e : Env) (L : List Asn) : ResultVar → Value → Prop
  | .tmp t, v => e.get t = some v
  | .cell t ty, v => ∃ (b : Nat) (cs : Array Value) (bt : TypeId) (fz : Nat × Nat) (L' : List Asn) (d : TypeDesc), e.get t = some (.pointer (some ⟨b, 0, none⟩)) ∧ Pull L (Blk b (.cells cs bt fz)) L' ∧ P.underlying ty = some d ∧ ((aggD d = true ∧ SizeOf P ty cs.size ∧ v = .agg cs) ∨ (aggD d = false ∧ cs = #[v]))
section
variable {P : Program} {n : Nat} {e : Env} {w0 : World} {F0 : Nat → Prop} {L L' : List Asn} {ds : List Deferred}
theorem rv_tmp {t : Nat} {v : Value} (h : e.get t = some v) : RVal P e L (.tmp t) v := h
theorem rv_cell {t ty b : Nat} {cs : Array Value} {bt : TypeId} {fz : Nat × Nat} {d : TypeDesc} (h : e.get t = some (.pointer (some ⟨b, 0, none⟩))) (hp : Pull L (Blk b (.cells cs bt fz)) L') (hu : P.underlying ty = some d) (hna : aggD d = true) (hs : SizeOf P ty cs.size) : RVal P e L (.cell t ty) (.agg cs) :=
  ⟨b, cs, bt, fz, L', d, h, hp, hu, .inl ⟨hna, hs, rfl⟩⟩
theorem rv_run {x : ResultVar} {v : Value} (h : RVal P e L x v) {a : Act} {w : World} (ha : Has n ds a e) (hC : St w0 F0 L w) :
    (match x with | .tmp t => Sem.run P (pure (a.tmps.getD t undef)) w | .cell t ty => Sem.run P (do loadVar ty (← asAddr (a.tmps.getD t undef))) w) = .ok v w := by
  cases x with
  | tmp t => simp [ha.get _ _ h]
  | cell t ty =>
    obtain ⟨b, cs, bt, fz, L', d, h1, hp, hu, hh⟩ := h
    obtain ⟨F, _, hb⟩ := hC.get hp
    rcases hh with ⟨hna, hs, rfl⟩ | ⟨hna, rfl⟩
    · have := run_loadN (P := P) (w := w) (a := ⟨b, 0, none⟩) (vs := cs.toList) hu hna hs (by simp) (fun j v hj => by
        rw [add_lit, blk_cell hb, Nat.zero_add]
        simpa using hj)
      simpa [ha.get _ _ h1, asAddr, Instr.loadAt, Instr.sureAddr] using this
    · have := run_load1 (P := P) (w := w) (a := ⟨b, 0, none⟩) (v := v) hu hna (by rw [blk_cell hb]; rfl)
      simpa [ha.get _ _ h1, asAddr, Instr.loadAt, Instr.sureAddr] using this
end

def rrv (tmps : Array Value) : ResultVar → Sem Value
  | .tmp t => pure (tmps.getD t undef)
  | .cell a t => do loadVar t (← asAddr (tmps.getD a undef))
theorem results_eq (fn : Func) (tmps : Array Value) : results fn tmps = (do
  let vs ← fn.results.mapM (rrv tmps)
  pure (if h : vs.size = 1 then vs[0] else .tuple vs)) := rfl
theorem rrv_run {P : Program} {n : Nat} {e : Env} {w0 : World} {F0 : Nat → Prop} {L : List Asn} {ds : List Deferred} {x : ResultVar} {v : Value} (h : RVal P e L x v) {a : Act} {w : World} (ha : Has n ds a e) (hC : St w0 F0 L w) : (rrv a.tmps x).run P w = .ok v w := by
  have := rv_run h ha hC
  cases x <;> exact this
section
variable {P : Program} {n : Nat} {ds : List Deferred} {Q : Exit → Act → World → Prop} {e : Env} {C : World → Prop} {w0 : World} {F0 : Nat → Prop} {L L' : List Asn}
theorem results1 {fn : Func} {x1 : ResultVar} {v1 : Value} (hr : fn.results = #[x1]) (h1 : RVal P e L x1 v1) {a : Act} {w : World} (ha : Has n ds a e) (hC : St w0 F0 L w) : (results fn a.tmps).run P w = .ok v1 w := by
  have r1 := rrv_run h1 ha hC
  rw [results_eq, hr]
  simp [r1]
theorem results2 {fn : Func} {x1 x2 : ResultVar} {v1 v2 : Value} (hr : fn.results = #[x1, x2]) (h1 : RVal P e L x1 v1) (h2 : RVal P e L x2 v2) {a : Act} {w : World} (ha : Has n ds a e) (hC : St w0 F0 L w) : (results fn a.tmps).run P w = .ok (.tuple #[v1, v2]) w := by
  have r1 := rrv_run h1 ha hC
  have r2 := rrv_run h2 ha hC
  rw [results_eq, hr]
  simp [r1, r2]
theorem hq_R1 {fn : Func} {x : Exit} {x1 : ResultVar} {v1 : Value} {post : Value → List Asn → Prop} {M : List Asn} (hx : x = .normal ∨ x = .ret) (hr : fn.results = #[x1]) (h1 : RVal P e L x1 v1) (hp : post v1 M) (hst : ∀ w, St w0 F0 L w → St w0 F0 M w) :
    HQ n [] (bodyPost P fn (bodyR w0 F0 post)) x e (St w0 F0 L) := ⟨fun a w ha hC => by
  have hrun := results1 hr h1 ha hC
  have : bodyR w0 F0 post (.returned v1) w := ⟨_, M, rfl, hp, hst w hC⟩
  rcases hx with rfl | rfl
  · exact ⟨ha.defers, _, hrun, this⟩
  · exact ⟨ha.defers, _, hrun, this⟩⟩
theorem hq_R2 {fn : Func} {x : Exit} {x1 x2 : ResultVar} {v1 v2 : Value} {post : Value → List Asn → Prop} {M : List Asn} (hx : x = .normal ∨ x = .ret) (hr : fn.results = #[x1, x2]) (h1 : RVal P e L x1 v1) (h2 : RVal P e L x2 v2) (hp : post (.tuple #[v1, v2]) M) (hst : ∀ w, St w0 F0 L w → St w0 F0 M w) :
    HQ n [] (bodyPost P fn (bodyR w0 F0 post)) x e (St w0 F0 L) := ⟨fun a w ha hC => by
  have hrun := results2 hr h1 h2 ha hC
  have : bodyR w0 F0 post (.returned (.tuple #[v1, v2])) w := ⟨_, M, rfl, hp, hst w hC⟩
  rcases hx with rfl | rfl
  · exact ⟨ha.defers, _, hrun, this⟩
  · exact ⟨ha.defers, _, hrun, this⟩⟩

/-! ### Deferred calls -/
theorem tx_append {ops : Array Oper} {ev wk : Nat → Bool} {K : Act → (World → Prop) → Prop} {l2 : List Oper} : ∀ (l1 : List Oper) (k : Nat) (a : Act) (C : World → Prop), TX P ops ev wk (fun a' C' => TX P ops ev wk K l2 (k + l1.length) a' C') l1 k a C → TX P ops ev wk K (l1 ++ l2) k a C
  | [], _, _, _, h => h
  | o :: l1, k, a, C, h => by
    have e1 : k + (o :: l1).length = k + 1 + l1.length := by rw [List.length_cons]; omega
    simp only [TX, e1] at h
    simp only [List.cons_append, TX]
    split
    · rename_i hw
      rw [if_pos hw] at h
      split
      · rename_i hev
        rw [if_pos hev] at h
        exact fun w hC => Oper.wp_mono (fun a' w' ⟨C', h1, h2, h3⟩ => ⟨C', h1, h2, tx_append l1 (k + 1) a' C' h3⟩) (h w hC)
      · rename_i hev
        rw [if_neg hev] at h
        obtain ⟨v, h1, h2⟩ := h
        exact ⟨v, h1, tx_append l1 (k + 1) _ C h2⟩
    · rename_i hw
      rw [if_neg hw] at h
      exact tx_append l1 (k + 1) _ C h
theorem tx_mono {ops : Array Oper} {ev wk : Nat → Bool} {K K' : Act → (World → Prop) → Prop} (hK : ∀ a C, K a C → K' a C) : ∀ (l : List Oper) (k : Nat) (a : Act) (C : World → Prop), TX P ops ev wk K l k a C → TX P ops ev wk K' l k a C
  | [], _, _, _, h => hK _ _ h
  | o :: l, k, a, C, h => by
    simp only [TX] at h ⊢
    split
    · rename_i hw
      rw [if_pos hw] at h
      split
      · rename_i he
        rw [if_pos he] at h
        exact fun w hC => Oper.wp_mono (fun a' w' ⟨C', h1, h2, h3⟩ => ⟨C', h1, h2, tx_mono hK l _ a' C' h3⟩) (h w hC)
      · rename_i he
        rw [if_neg he] at h
        obtain ⟨v, h1, h2⟩ := h
        exact ⟨v, h1, tx_mono hK l _ _ C h2⟩
    · rename_i hw
      rw [if_neg hw] at h
      exact tx_mono hK l _ _ C h
/-- The deferred call of f with vs. -/
def defOf (f : FuncId) (cap : Array Value) (vs : List Value) : Deferred := { target := .fn (.func f) cap, args := vs.toArray }
/-- A region that ends with a deferred call. -/
theorem hc_defer {id : Nat} {l1 : List Oper} {o : Oper} {c : Call} {f : FuncId} {fo : Operand} (ho : o.op = .defer c) (hg : o.guard = none) (hdst : o.dst = none) (hc : c.callee = .value fo)
    (h : HX P n ds (l1 ++ [o]).toArray (fun _ => true) (fun _ => false) (fun e' C' => ∃ vs cap, e'.op fo = some (.func (.func f) #[] cap) ∧ e'.ops c.args.toList = some vs ∧ HQ n (defOf f cap vs :: ds) Q .normal e' C') l1 0 e C) :
    HC P n ds (Code.region id (l1 ++ [o]).toArray false) Q e C := ⟨fun a w ha hC => by
  refine wp_region_tx0 (ev := fun _ => true) (wk := fun _ => false) (C := C) hC ?_
  refine tx_append l1 0 a C (tx_mono ?_ l1 0 a C (h.out a ha))
  rintro a' C' ⟨e', h1, vs, cap, h2, h3, h4⟩
  simp only [TX]
  rw [if_pos (by simp [Region.wanted, hg]), if_pos trivial]
  intro w' hw'
  have e1 : c.args.map a'.eval = vs.toArray := by
    rw [← h1.evals h3]
    exact Array.ext' (by simp)
  have hrun : (execOp a'.eval o).run P w' = .ok (.defer (defOf f cap vs)) w' := by
    simp [execOp, ho, resolve, hc, h1.eval h2, Deferred.ofValue, e1, defOf]
  unfold Oper.wp
  rw [hrun]
  refine ⟨C', hw', (fun h => by cases h), fun w'' hw'' => ?_⟩
  rw [hdst]
  exact h4.out _ w'' ⟨h1.size, by show _ :: a'.defers = _; rw [h1.defers], h1.get⟩ hw''⟩
/-- A deferred call of f, where the caller returns. -/
def SpecD (P : Program) (f : FuncId) (args : List Value) (pre : List Asn) (post : Value → List Asn → Prop) : Prop :=
  ∀ w F, Star w pre F → CallsD P f args.toArray .returning w (fun en u w' => u = .returning ∧ ∃ v M, en = .returned v ∧ post v M ∧ St w F M w')
theorem spec_ofD {f : FuncId} {fn : Func} {c : Code} {args : List Value} {pre : List Asn} {post : Value → List Asn → Prop} (hf : P.funcs[f]? = some fn) (hb : fn.body = some c) (hn : fn.ntmps = n) (hlen : args.length ≤ n)
    (h : ∀ w F, HC P n [] c (bodyPostD P fn (bodyR w F post)) (envOf 0 args) (St w F pre)) : Spec P f args pre post := fun w F hs => by
  refine calls_of_wp_defers hf hb ((h w F).out _ _ ⟨?_, rfl, fun k v hk => ?_⟩ (.start hs))
  · simp [hn]; omega
  · obtain ⟨_, h2⟩ := envOf_get _ _ _ _ hk
    have hlt : k - 0 < args.length := by
      rcases Nat.lt_or_ge (k - 0) args.length with h | h
      · exact h
      · simp only [Nat.sub_zero] at h h2; rw [List.getElem?_eq_none h] at h2; cases h2
    have hlt' : k < args.length := by omega
    rw [Nat.sub_zero] at h2
    rw [Array.getElem?_append_left (by simpa using hlt')]
    simpa using h2
/-- The return, one call deferred. -/
theorem hq_retD1 {fn : Func} {x : Exit} {f : FuncId} {vs : List Value} {cap : Array Value} {pre rest : List Asn} {postf post : Value → List Asn → Prop} {x1 : ResultVar} (hx : x = .normal ∨ x = .ret) (hr : fn.results = #[x1]) (he : Enters P f) (hpu : Pulls L pre rest) (hs : SpecD P f (vs ++ cap.toList) pre postf)
    (h : ∀ v M, postf v M → ∃ v1 M', RVal P e (M ++ rest) x1 v1 ∧ post v1 M' ∧ ∀ w, St w0 F0 (M ++ rest) w → St w0 F0 M' w) :
    HQ n [defOf f cap vs] (bodyPostD P fn (bodyR w0 F0 post)) x e (St w0 F0 L) := ⟨fun a w ha hC => by
  have hC' : St w0 F0 (pre ++ rest) w := hC.perm hpu.perm
  have key : Leaves P fn a.tmps (bodyR w0 F0 post) a.defers .returning w := by
    rw [ha.defers]
    have hi : (invoke (.fn (.func f) cap) vs.toArray).run P w = .ok (.enter f (vs.toArray ++ cap)) w := by
      simp only [invoke]
      exact he _ _
    refine leaves_cons (by simp) hi ?_
    obtain ⟨F, h1, h2, h3⟩ := hC'
    obtain ⟨F1, F2, s1, s2, s3, s4⟩ := h1.tight.split
    have hcall := hs w F1 s1
    have e1 : (vs ++ cap.toList).toArray = vs.toArray ++ cap := by simp
    rw [e1] at hcall
    refine hcall.mono ?_
    rintro en u w' ⟨rfl, v, M, rfl, hp, hSt⟩
    have hst : St w0 F0 (M ++ rest) w' := by
      obtain ⟨G, g1, g2, g3⟩ := hSt
      have t2 := s2.tight
      refine ⟨fun b => G b ∨ (F2 b ∧ b < w.heap.size), g1.join (t2.loc fun b hb => g2.blk b hb.2 fun hb1 => s3 b hb1 hb.1) (fun b hb hc => ?_) (fun _ h => h), ⟨g2.os.trans h2.os, g2.tape.trans h2.tape, g2.output.trans h2.output, Nat.le_trans h2.size g2.size, fun k hk hn => ?_⟩, fun b hb => ?_⟩
      · rcases g3 b hb with h | h
        · exact s3 b h hc.1
        · exact absurd hc.2 (by omega)
      · refine (g2.blk k (Nat.lt_of_lt_of_le hk h2.size) fun hk1 => ?_).trans (h2.blk k hk hn)
        rcases h3 k (s4 k (.inl hk1)).1 with h | h
        · exact hn h
        · omega
      · rcases hb with hb | hb
        · rcases g3 b hb with h | h
          · exact h3 b (s4 b (.inl h)).1
          · exact .inr (Nat.le_trans h2.size h)
        · exact h3 b (s4 b (.inr hb.1)).1
    obtain ⟨v1, M', r1, r2, r3⟩ := h v M hp
    exact ⟨v1, results1 hr r1 ha hst, v1, M', rfl, r2, r3 w' hst⟩
  rcases hx with rfl | rfl
  · exact key
  · exact key⟩
/-- A deferred function that begins with recover(), where nothing is to be recovered. -/
theorem specD_recover {f : FuncId} {fn : Func} {id : Nat} {o : Oper} {rest : Code} {args : List Value} {pre : List Asn} {post : Value → List Asn → Prop} {t : Nat} (hf : P.funcs[f]? = some fn) (hb : fn.body = some (Code.seq (Code.region id #[o] false) rest)) (hn : fn.ntmps = n) (hlen : args.length ≤ n)
    (ho : o.op = .call { callee := .builtin .recover, args := #[], argTypes := #[] }) (hg : o.guard = none) (hdst : o.dst = some t) (ht : okD n (some t) = true)
    (h : ∀ w F, HC P n [] rest (bodyPost P fn (bodyR w F post)) ((t, .nilIface) :: envOf 0 args) (St w F pre)) : SpecD P f args pre post := fun w F hs => by
  refine callsD_of_wpS hf hb (fun c0 cs hu => ?_)
  apply wpS_seq
  apply wpS_region
  obtain ⟨a0, ha0⟩ : ∃ a0 : Act, a0 = { tmps := args.toArray ++ Array.replicate (fn.ntmps - args.toArray.size) undef, defers := [] } := ⟨_, rfl⟩
  have hhas : Has n [] a0 (envOf 0 args) := by
    subst ha0
    refine ⟨by simp [hn]; omega, rfl, fun k v hk => ?_⟩
    obtain ⟨_, h2⟩ := envOf_get _ _ _ _ hk
    have hlt : k - 0 < args.length := by
      rcases Nat.lt_or_ge (k - 0) args.length with h | h
      · exact h
      · simp only [Nat.sub_zero] at h h2; rw [List.getElem?_eq_none h] at h2; cases h2
    have hlt' : k < args.length := by omega
    rw [Nat.sub_zero] at h2
    show (args.toArray ++ _)[k]? = _
    rw [Array.getElem?_append_left (by simpa using hlt')]
    simpa using h2
  rw [← ha0]
  have hrun : (execOp a0.eval o).run P w = .ok .recover w := by
    simp [execOp, ho, resolve, invoke, builtin]
  have hrec : recoverD (c0 :: cs) = none := by simp [recoverD, hu]
  have hw : Region.wanted o (yielded #[o] a0.tmps) = true := by simp [Region.wanted, hg]
  show wpOpsS P #[o] _ [0] a0 (c0 :: cs) w
  simp only [wpOpsS]
  have h0 : (#[o] : Array Oper)[0]? = some o := rfl
  simp only [h0, hw, if_true, hrun, hrec]
  have ha' : Has n [] (a0.put o.dst .nilIface) ((t, .nilIface) :: envOf 0 args) := by rw [hdst]; exact hhas.put ht _
  refine wpS_of_wp (wp_mono ((h w F).out _ w ha' (.start hs)) ?_)
  have hc0 : ({ c0 with mode := .returning } : Frame) = c0 := by rw [← hu]
  intro ex a' w' hq
  cases ex with
  | normal =>
    obtain ⟨h1, v, h2, h3⟩ := hq
    exact ⟨h1, .returning, by rw [hc0], v, h2, rfl, h3⟩
  | ret =>
    obtain ⟨h1, v, h2, h3⟩ := hq
    exact ⟨h1, .returning, by rw [hc0], v, h2, rfl, h3⟩
  | panic ch =>
    obtain ⟨_, v, M, h1, _⟩ := hq
    cases h1
  | outgrown =>
    obtain ⟨v, M, h1, _⟩ := hq
    cases h1
  | exit id => exact hq.elim
  | goto l => exact hq.elim
end
end Go.Proofs.Ytbelfaoolnijiaa
namespace Go.Proofs.Ytbelfaoolnijiaa
open Go

/-! ### Parts of slices -/
section
variable {X : Type} {E : Elem X} {w : World} {xs : List X}
theorem Rd.sub {g off len cap i j : Nat} (h : Rd E w (.slice (some ⟨g, off, none⟩) len cap) xs) (h1 : i ≤ j) (h2 : j ≤ xs.length) : Rd E w (.slice (some ⟨g, if cap = i then off else off + i * E.sz, none⟩) (j - i) (cap - i)) ((xs.drop i).take (j - i)) := by
  obtain ⟨a, c, e, l1, l2, l3⟩ := h
  injection e with e1 e2 e3
  subst e3
  have hlen : ((xs.drop i).take (j - i)).length = j - i := by rw [List.length_take, List.length_drop]; omega
  refine ⟨_, _, by rw [hlen], by rw [hlen]; omega, by omega, ?_⟩
  by_cases hij : i = j
  · left
    rw [hij, Nat.sub_self, List.take_zero]
  · right
    have hx : xs ≠ [] := by
      intro e
      rw [e] at h2
      simp at h2
      omega
    obtain ⟨g', off', e4, hc⟩ := l3.resolve_left hx
    rw [← e1] at e4
    injection e4 with e4
    injection e4 with e4 e5
    subst e4 e5
    have hci : ¬ cap = i := by omega
    rw [if_neg hci]
    refine ⟨g, _, rfl, fun k x hk u v hv => ?_⟩
    have hk2 : k < j - i := by
      have := (List.getElem?_eq_some_iff.1 hk).1
      rwa [hlen] at this
    rw [List.getElem?_take_of_lt hk2, List.getElem?_drop] at hk
    have := hc _ x hk u v hv
    rw [show off + i * E.sz + k * E.sz + u = off + (i + k) * E.sz + u by rw [Nat.add_mul]; omega]
    exact this
end
section
variable {P : Program} {n : Nat} {ds : List Deferred} {ops : Array Oper} {ev wk : Nat → Bool} {K : Env → (World → Prop) → Prop} {r : List Oper} {o : Oper} {k : Nat} {e : Env} {C : World → Prop} {w0 : World} {F0 : Nat → Prop} {L L' : List Asn}
theorem addr_sub (g off m : Nat) (c : Prop) [Decidable c] : (if c then some (⟨g, off, none⟩ : Addr) else some ((⟨g, off, none⟩ : Addr).add m)) = some ⟨g, if c then off else off + m, none⟩ := by
  split <;> simp [add_lit]
/-- s[i:j]. -/
theorem h_cut {t el len cap g off s : Nat} {x y z : Operand} {q q2 : IntKind} (i j : Nat) (ho : o.op = .slice t x (some y) (some z) none) (hx : e.op x = some (.slice (some ⟨g, off, none⟩) len cap)) (hy : e.op y = some (.int q (i : Int))) (hz : e.op z = some (.int q2 (j : Int))) (hu : P.underlying t = some (.slice el)) (hs : SizeOf P el s) (hi : i ≤ j ∧ j ≤ cap)
    {dd : Nat} (hdst : o.dst = some dd) (hd : okD n (some dd) = true) (h : HX P n ds ops ev wk K r (k + 1) ((dd, .slice (some ⟨g, if cap = i then off else off + i * s, none⟩) (j - i) (cap - i)) :: e) C) : HX1 P n ds ops ev wk K o r k e C :=
  h_sliceFT ho hx hy hz hu hs (by omega) hdst hd (by
    simp only [Option.map_some, Int.toNat_natCast, addr_sub]
    exact h)
/-- s[i:]. -/
theorem h_cutFrom {t el len cap g off s : Nat} {x y : Operand} {q : IntKind} (i : Nat) (ho : o.op = .slice t x (some y) none none) (hx : e.op x = some (.slice (some ⟨g, off, none⟩) len cap)) (hy : e.op y = some (.int q (i : Int))) (hu : P.underlying t = some (.slice el)) (hs : SizeOf P el s) (hi : i ≤ len)
    {dd : Nat} (hdst : o.dst = some dd) (hd : okD n (some dd) = true) (h : HX P n ds ops ev wk K r (k + 1) ((dd, .slice (some ⟨g, if cap = i then off else off + i * s, none⟩) (len - i) (cap - i)) :: e) C) : HX1 P n ds ops ev wk K o r k e C :=
  h_sliceFrom ho hx hy hu hs (by omega) hdst hd (by
    simp only [Option.map_some, Int.toNat_natCast, addr_sub]
    exact h)
theorem h_shrU {t t2 : TypeId} {x y : Operand} {q2 : IntKind} {a b : Int} (ho : o.op = .binOp .shr t x y t2) (hx : e.op x = some (.int .u64 a)) (hy : e.op y = some (.int q2 b)) (hb : 0 ≤ b ∧ b ≤ 64)
    {dd : Nat} (hdst : o.dst = some dd) (hd : okD n (some dd) = true) (h : HX P n ds ops ev wk K r (k + 1) ((dd, .int .u64 (a / 2 ^ b.toNat)) :: e) C) : HX1 P n ds ops ev wk K o r k e C := h_shr ho hx hy hb hdst hd h
theorem h_shlU {t t2 : TypeId} {x y : Operand} {q2 : IntKind} {a b : Int} (ho : o.op = .binOp .shl t x y t2) (hx : e.op x = some (.int .u64 a)) (hy : e.op y = some (.int q2 b)) (hb : 0 ≤ b ∧ b ≤ 64)
    {dd : Nat} (hdst : o.dst = some dd) (hd : okD n (some dd) = true) (h : HX P n ds ops ev wk K r (k + 1) ((dd, .int .u64 (IntKind.u64.wrap (a * 2 ^ b.toNat))) :: e) C) : HX1 P n ds ops ev wk K o r k e C := h_shl ho hx hy hb hdst hd h
/-- A new array, all its elements told. -/
theorem h_buildSliceB {t el len size : Nat} {ps : Array (Nat × Operand)} {vs : List Value} {zv : Value} (hev : ev k = true) (hwk : wk k = false) (ho : o.op = .buildSlice t len ps) (hu : P.underlying t = some (.slice el)) (hs : SizeOf P el size) (hz : ZeroOf P el zv) (hvs : e.elems 0 ps.toList = some vs) (hlen : Nat.beq vs.length len = true) (hsz : (vs.all fun v => Nat.beq v.cells.toList.length size) = true) (hbig : len * size ≤ 2 ^ 24)
    {dd : Nat} (hdst : o.dst = some dd) (hd : okD n (some dd) = true) (h : ∀ b, HX P n ds ops ev wk K r (k + 1) ((dd, .slice (some ⟨b, 0, none⟩) len len) :: e) (St w0 F0 (Blk b (.cells (vs.flatMap (fun v => v.cells.toList)).toArray el (0, 0)) :: L))) : HX1 P n ds ops ev wk K o r k e (St w0 F0 L) :=
  h_buildSlice hev hwk ho hu hs hz hvs hlen (fun v hv => by have := Nat.eq_of_beq_eq_true (List.all_eq_true.1 hsz v hv); rwa [Array.length_toList] at this) hbig hdst hd h
/-- An array by value, all its elements told. -/
theorem h_buildA {t el len size : Nat} {ps : Array (Nat × Operand)} {vs : List Value} {zv : Value} (ho : o.op = .build t ps) (hu : P.underlying t = some (.array len el)) (hs : SizeOf P el size) (hz : ZeroOf P t zv) (hzs : zv.cells.size = len * size) (hvs : e.elems 0 ps.toList = some vs) (hlen : Nat.beq vs.length len = true) (hsz : ∀ v ∈ vs, v.cells.size = size)
    {dd : Nat} (hdst : o.dst = some dd) (hd : okD n (some dd) = true) (h : HX P n ds ops ev wk K r (k + 1) ((dd, .agg (vs.flatMap (fun v => v.cells.toList)).toArray) :: e) C) : HX1 P n ds ops ev wk K o r k e C :=
  hx1_pure (by rw [ho]; rfl) hdst hd (fun a w ha => by
    obtain ⟨e1, e2⟩ := ha.elems hvs
    have hl := Nat.eq_of_beq_eq_true hlen
    have e3 : ps.map (fun (i, x) => (i, a.eval x)) = ((vs.zipIdx 0).map (fun p => (p.2, p.1))).toArray := by
      rw [← e1]
      exact Array.ext' (by simp)
    have hfill := fill_full (size := size) vs 0 zv.cells [] hsz (by simp) (by rw [hzs, Nat.zero_add, hl]) (by simp)
    simp only [execOp, ho, e3, Instr.build]
    simp [run_zero hz, run_und hu, run_size hs]
    simp at hfill
    simp [hfill]) h
/-- A call that only reads, where what it reads is known of the world. -/
theorem h_callRd {c : Call} {f : FuncId} {fo : Operand} {vs : List Value} {cap : Array Value} {v : Value} (ho : o.op = .call c) (hc : c.callee = .value fo) (hf : e.op fo = some (.func (.func f) #[] cap)) (hvs : e.ops c.args.toList = some vs)
    {dd : Nat} (hdst : o.dst = some dd) (hd : okD n (some dd) = true) (he : Enters P f) (hs : ∀ w, St w0 F0 L w → Calls P f (vs ++ cap.toList).toArray w (fun en w' => en = .returned v ∧ But w w' nowhere))
    (h : HX P n ds ops ev wk K r (k + 1) ((dd, v) :: e) (St w0 F0 L)) : HX1 P n ds ops ev wk K o r k e (St w0 F0 L) :=
  h_callR ho hc hf hvs hdst hd he hs h
end
theorem setMany_all {cs : Array Value} {vs : List Value} (h : vs.length = cs.size) : setMany cs 0 vs = vs.toArray := by
  apply Array.ext_getElem?
  intro j
  rw [setMany_get vs cs 0 j (by omega)]
  by_cases hj : j < vs.length
  · rw [if_pos (by omega)]
    simp
  · rw [if_neg (by omega), Array.getElem?_eq_none (by omega)]
    simp
    omega
theorem setMany_one {cs : Array Value} {off : Nat} {v : Value} : setMany cs off [v] = (cs.toList.set off v).toArray := by
  apply Array.ext'
  simp [setMany]
/-- One cell is written. -/
theorem h_store1 {P : Program} {n : Nat} {ds : List Deferred} {ops : Array Oper} {ev wk : Nat → Bool} {K : Env → (World → Prop) → Prop} {r : List Oper} {o : Oper} {k : Nat} {e : Env} {w0 : World} {F0 : Nat → Prop} {L L' : List Asn} {t b off : Nat} {x y : Operand} {cs : Array Value} {bt : TypeId} {v : Value} (hev : ev k = true) (hwk : wk k = false) (ho : o.op = .store t x y) (hdst : o.dst = none) (hx : e.op x = some (.pointer (some ⟨b, off, none⟩))) (hy : e.op y = some v) (hs : SizeOf P t 1)
    (hp : Pull L (Blk b (.cells cs bt (0, 0))) L') (hl : v.cells.toList = [v]) (hr : Nat.ble (off + 1) cs.toList.length = true) (h1 : v.oneCell' = true)
    (h : HX P n ds ops ev wk K r (k + 1) e (St w0 F0 (Blk b (.cells (cs.toList.set off v).toArray bt (0, 0)) :: L'))) : HX1 P n ds ops ev wk K o r k e (St w0 F0 L) := by
  have e2 := Nat.le_of_ble_eq_true hr
  rw [Array.length_toList] at e2
  exact h_store hev hwk ho hdst hx hy hs hp hl rfl e2 (fun u hu => by rw [List.mem_singleton.1 hu]; exact h1) (by rw [setMany_one]; exact h)
/-- A whole block is written. -/
theorem h_storeAll {P : Program} {n : Nat} {ds : List Deferred} {ops : Array Oper} {ev wk : Nat → Bool} {K : Env → (World → Prop) → Prop} {r : List Oper} {o : Oper} {k : Nat} {e : Env} {w0 : World} {F0 : Nat → Prop} {L L' : List Asn} {t b s : Nat} {x y : Operand} {cs : Array Value} {bt : TypeId} {v : Value} {vs : List Value} (hev : ev k = true) (hwk : wk k = false) (ho : o.op = .store t x y) (hdst : o.dst = none) (hx : e.op x = some (.pointer (some ⟨b, 0, none⟩))) (hy : e.op y = some v) (hs : SizeOf P t s)
    (hp : Pull L (Blk b (.cells cs bt (0, 0))) L') (hl : v.cells.toList = vs) (hls : Nat.beq vs.length s = true) (hr : Nat.beq cs.toList.length s = true) (h1 : ∀ u ∈ vs, u.oneCell' = true)
    (h : HX P n ds ops ev wk K r (k + 1) e (St w0 F0 (Blk b (.cells vs.toArray bt (0, 0)) :: L'))) : HX1 P n ds ops ev wk K o r k e (St w0 F0 L) := by
  have e1 := Nat.eq_of_beq_eq_true hls
  have e2 := Nat.eq_of_beq_eq_true hr
  rw [Array.length_toList] at e2
  exact h_store hev hwk ho hdst hx hy hs hp hl e1 (by omega) h1 (by rw [setMany_all (by omega)]; exact h)
/-- A store, where reads may still come: what is left implies D. -/
theorem hd_store {P : Program} {n : Nat} {ds : List Deferred} {ops : Array Oper} {ev : Nat → Bool} {D : World → Prop} {K : Env → (World → Prop) → Prop} {r : List (Nat × Oper)} {e : Env} {w0 : World} {F0 : Nat → Prop} {L L' : List Asn} {i t b off s : Nat} {o : Oper} {x y : Operand} {cs : Array Value} {bt : TypeId} {v : Value} {vs : List Value} (hg : o.guard = none) (hev : ev i = true) (ho : o.op = .store t x y) (hdst : o.dst = none) (hx : e.op x = some (.pointer (some ⟨b, off, none⟩))) (hy : e.op y = some v) (hs : SizeOf P t s)
    (hp : Pull L (Blk b (.cells cs bt (0, 0))) L') (hl : v.cells.toList = vs) (hls : vs.length = s) (hr : off + s ≤ cs.size) (h1 : ∀ u ∈ vs, u.oneCell' = true)
    (hD : ∀ x, St w0 F0 (Blk b (.cells (setMany cs off vs) bt (0, 0)) :: L') x → D x)
    (h : HD P n ds ops ev D K r e (St w0 F0 (Blk b (.cells (setMany cs off vs) bt (0, 0)) :: L'))) : HD P n ds ops ev D K ((i, o) :: r) e (St w0 F0 L) := ⟨fun a ha => by
  simp only [TXD]
  rw [if_pos (by simp [Region.wanted, hg]), if_pos hev]
  intro w hC
  have hC' := hC.perm hp.perm
  have hb := hC'.blk
  subst hl
  obtain ⟨w', hrun, hbut, hh⟩ := run_storeAt (P := P) (v := v) (off := off) hb hs (by simpa using hls) (by simpa using hr) h1
  unfold Oper.wp
  have : (execOp a.eval o).run P w = .ok .skip w' := by simp [execOp, ho, ha.eval hx, ha.eval hy, hrun]
  rw [this]
  refine ⟨_, hC'.put hbut hh, hD, ?_⟩
  rw [hdst]
  exact h.out _ ha⟩
theorem St.blk_holds {X : Type} {E : Elem X} {b m : Nat} {cs : Array Value} {bt : TypeId} {fz : Nat × Nat} {w0 : World} {F0 : Nat → Prop} {L : List Asn} {w : World} (xs : List X) (h : St w0 F0 (Blk b (.cells cs bt fz) :: L) w) (hm : xs.length = m) (hl : m ≤ maxLen)
    (hcs : ∀ i q, xs[i]? = some q → ∀ j u, (E.enc q)[j]? = some u → cs[i * E.sz + j]? = some u) : St w0 F0 (Holds E [(.slice (some ⟨b, 0, none⟩) m m, xs)] :: L) w :=
  h.map (A := Blk b (.cells cs bt fz)) (B := Holds E [(.slice (some ⟨b, 0, none⟩) m m, xs)]) fun F hp => by
    subst hm
    refine ⟨fun q hq => ?_, (Blk b (.cells cs bt fz)).lt hp⟩
    rw [List.mem_singleton.1 hq]
    obtain ⟨h1, h2⟩ := hp
    exact ⟨_, _, rfl, Nat.le_refl _, hl, .inr ⟨b, 0, (h1 b).2 rfl, rfl, fun i x hx j u hu => by rw [blk_cell h2, Nat.zero_add]; exact hcs i x hx j u hu⟩⟩
/-- What a function makes of what it reads: new pieces. -/
def Makes (P : Program) (f : FuncId) (args : List Value) (w : World) (post : Value → List Asn → Prop) : Prop :=
  Calls P f args.toArray w (fun en w' => ∃ v M, en = .returned v ∧ post v M ∧ St w nowhere M w')
/-- The object's first cells are these. -/
def CellsOf (o : Obj) (vs : List Value) : Prop := ∃ (cs : Array Value) (bt : TypeId) (fz : Nat × Nat), o = .cells cs bt fz ∧ ∀ (i : Nat) (v : Value), vs[i]? = some v → cs[i]? = some v
/-- A block of which the first cells are known; it is only read. -/
def Cel (b : Nat) (vs : List Value) (ob : Obj) : Asn where
  p w F := (∀ x, F x ↔ x = b) ∧ w.heap[b]? = some ob ∧ CellsOf ob vs
  lt := fun ⟨h1, h2, _⟩ x hx => by rw [(h1 x).1 hx]; exact (Array.getElem?_eq_some_iff.1 h2).1
  loc := fun ⟨h1, h2, h3⟩ h => ⟨h1, (h b ((h1 b).2 rfl)).trans h2, h3⟩
theorem h_celLoad {P : Program} {n : Nat} {ds : List Deferred} {ops : Array Oper} {ev wk : Nat → Bool} {K : Env → (World → Prop) → Prop} {r : List Oper} {o : Oper} {k : Nat} {e : Env} {w0 : World} {F0 : Nat → Prop} {L L' : List Asn} {t b i : Nat} {x : Operand} {d : TypeDesc} {vs : List Value} {ob : Obj} {v : Value} (ho : o.op = .load t x) (hp : Pull L (Cel b vs ob) L') (hx : e.op x = some (.pointer (some ⟨b, i, none⟩))) (hu : P.underlying t = some d) (hna : aggD d = false)
    (hv : nth vs i = some v) {dd : Nat} (hdst : o.dst = some dd) (hd : okD n (some dd) = true) (h : HX P n ds ops ev wk K r (k + 1) ((dd, v) :: e) (St w0 F0 L)) : HX1 P n ds ops ev wk K o r k e (St w0 F0 L) :=
  hx1_read (by rw [ho]; rfl) (by rw [ho]; rfl) hdst hd (fun a w ha hC => by
    obtain ⟨F, _, hb, cs, bt, fz, rfl, hc⟩ := hC.get hp
    simp [execOp, ho, ha.eval hx, run_load1 hu hna ((blk_cell hb i).trans (hc i v (by rw [← nth_eq]; exact hv)))]) h
/-- In this world the block's first cells are these. -/
def CelAt (b : Nat) (vs : List Value) (w : World) : Prop := ∃ ob, w.heap[b]? = some ob ∧ CellsOf ob vs
theorem CelAt.but {b : Nat} {vs : List Value} {w w' : World} (h : CelAt b vs w) (hb : But w w' nowhere) : CelAt b vs w' := by
  obtain ⟨ob, h1, h2⟩ := h
  exact ⟨ob, (hb.blk b (Array.getElem?_eq_some_iff.1 h1).1 id).trans h1, h2⟩
theorem St.celAt {b : Nat} {vs : List Value} {w0 w : World} {L : List Asn} (h : St w0 nowhere L w) (hc : CelAt b vs w0) : CelAt b vs w := hc.but h.but
/-- A call that leans on such a block, where the block is known of the world alone. -/
theorem Spec.celMakes {P : Program} {f : FuncId} {args : List Value} {b : Nat} {vs : List Value} {post : Value → List Asn → Prop} (h : ∀ ob, Spec P f args [Cel b vs ob] (fun v M => ∃ M', M = Cel b vs ob :: M' ∧ post v M')) {w : World} (hw : CelAt b vs w) : Makes P f args w post := by
  obtain ⟨ob, h1, h2⟩ := hw
  have hs : Star w [Cel b vs ob] (fun x => x = b) := ⟨fun x => x = b, nowhere, ⟨fun _ => Iff.rfl, h1, h2⟩, trivial, fun _ _ h => h.elim, fun _ h => h.elim id False.elim⟩
  refine (h ob w _ hs).mono ?_
  rintro en w' ⟨v, M, rfl, ⟨M', rfl, hp⟩, hst⟩
  refine ⟨v, M', rfl, hp, ?_⟩
  obtain ⟨F, ⟨F1, F2, ⟨g1, g2, g3⟩, s2, s3, s4⟩, hb, hF⟩ := hst
  refine ⟨F2, s2, ⟨hb.os, hb.tape, hb.output, hb.size, fun k hk _ => ?_⟩, fun x hx => ?_⟩
  · by_cases hkb : k = b
    · subst hkb
      rw [g2, h1]
    · exact hb.blk k hk hkb
  · rcases hF x (s4 x (.inr hx)) with h | h
    · exact absurd hx (s3 x ((g1 x).2 h))
    · exact .inr h
theorem st_none' {w w' : World} (h : But w w' nowhere) : St w nowhere [] w' := ⟨nowhere, trivial, h, fun _ h => h.elim⟩
theorem makes_of {P : Program} {n : Nat} {f : FuncId} {fn : Func} {c : Code} {args : List Value} {w : World} {post : Value → List Asn → Prop} (hf : P.funcs[f]? = some fn) (hb : fn.body = some c) (hn : fn.ntmps = n) (hlen : args.length ≤ n)
    (h : HC P n [] c (bodyPost P fn (bodyR w nowhere post)) (envOf 0 args) (St w nowhere [])) : Makes P f args w post :=
  spec_at (pre := []) (F := nowhere) hf hb hn hlen trivial h
end Go.Proofs.Ytbelfaoolnijiaa
namespace Go.Proofs.Ytbelfaoolnijiaa
open Go
section
variable {X : Type} {E : Elem X} {w : World} {xs : List X}
theorem Rd.takeN {a : Option Addr} {len cap n : Nat} (h : Rd E w (.slice a len cap) xs) (hn : n ≤ xs.length) : Rd E w (.slice a n cap) (xs.take n) := by
  obtain ⟨a', c, e, l1, l2, l3⟩ := h
  injection e with e1 e2 e3
  subst e1 e3
  have hlen : (xs.take n).length = n := by rw [List.length_take]; omega
  refine ⟨_, _, by rw [hlen], by rw [hlen]; omega, l2, ?_⟩
  rcases l3 with h | ⟨g, off, e4, hc⟩
  · left; rw [h]; simp
  · refine .inr ⟨g, off, e4, fun k x hk u v hv => hc k x ?_ u v hv⟩
    rw [List.getElem?_take] at hk
    split at hk
    · exact hk
    · cases hk
theorem Rd.dropN {g off len cap i : Nat} (h : Rd E w (.slice (some ⟨g, off, none⟩) len cap) xs) (hi : i ≤ xs.length) (hl : len = xs.length) : Rd E w (.slice (some ⟨g, if cap = i then off else off + i * E.sz, none⟩) (len - i) (cap - i)) (xs.drop i) := by
  subst hl
  have := h.sub hi (Nat.le_refl _)
  rwa [List.take_of_length_le (by rw [List.length_drop]; exact Nat.le_refl _)] at this
end
theorem Spec.conv {P : Program} {f : FuncId} {args : List Value} {pre : List Asn} {post post' : Value → List Asn → Prop} (h : Spec P f args pre post) (hc : ∀ v M, post v M → ∃ M', post' v M' ∧ ∀ w0 F w, St w0 F M w → St w0 F M' w) : Spec P f args pre post' := fun w F hs =>
  (h w F hs).mono fun _ _ ⟨v, M, e, hp, hst⟩ => let ⟨M', hp', hm⟩ := hc v M hp; ⟨v, M', e, hp', hm _ _ _ hst⟩
theorem Makes.reads {P : Program} {f : FuncId} {args : List Value} {w : World} {v : Value} (h : Makes P f args w (fun u M => u = v ∧ M = [])) : Calls P f args.toArray w (fun en w' => en = .returned v ∧ But w w' nowhere) :=
  h.mono fun _ _ ⟨_, _, e, ⟨h1, _⟩, hst⟩ => ⟨by rw [e, h1], hst.but⟩
theorem reads_makes {P : Program} {f : FuncId} {args : List Value} {w : World} {v : Value} (h : Calls P f args.toArray w (fun en w' => en = .returned v ∧ But w w' nowhere)) : Makes P f args w (fun u M => u = v ∧ M = []) :=
  h.mono fun _ _ ⟨e, hb⟩ => ⟨v, [], e, ⟨rfl, rfl⟩, st_none' hb⟩
/-- A list being laid from the front. -/
def laid {α : Type} (z : α) (xs : List α) (i : Nat) : List α := xs.take i ++ List.replicate (xs.length - i) z
theorem laid_len {α : Type} {z : α} {xs : List α} {i : Nat} (h : i ≤ xs.length) : (laid z xs i).length = xs.length := by simp [laid]; omega
theorem laid_set {α : Type} {z : α} {xs : List α} {i : Nat} (h : i < xs.length) : (laid z xs i).set i xs[i] = laid z xs (i + 1) := by
  unfold laid
  have h1 : (xs.take i).length = i := by rw [List.length_take]; omega
  rw [List.set_append_right _ _ (by omega), h1, Nat.sub_self]
  have h2 : xs.length - i = (xs.length - (i + 1)) + 1 := by omega
  rw [h2, List.replicate_succ, List.set_cons_zero, List.take_succ_eq_append_getElem h, List.append_assoc]
  rfl
theorem laid_all {α : Type} {z : α} {xs : List α} {i : Nat} (h : i = xs.length) : laid z xs i = xs := by
  subst h
  simp [laid]
end Go.Proofs.Ytbelfaoolnijiaa
