import Derived.Test.YtjnnlfeohbidhaaDoorEngU
import Derived.Laws.BytesString
import Derived.Laws.MakeOwn
import Derived.Laws.IdiomCopy
import Derived.Lib.ConvBytes
namespace Go.Proofs.YtjnnlfeohbidhaaDoor
open Go

/-! ### More operations -/
def byteE : Elem Int where
  sz := 1
  pos := by decide
  enc t := [.int .u8 t]
  len _ := rfl
  one t v hv := by
    simp at hv
    subst hv
    rfl
section
variable {X : Type} {P : Program} {n : Nat} {ds : List Deferred} {ops : Array Oper} {ev wk : Nat → Bool} {K : Env → (World → Prop) → Prop} {r : List Oper} {o : Oper} {k : Nat} {e : Env} {C : World → Prop} {w0 : World} {F0 : Nat → Prop} {L L' : List Asn} {E : Elem X} {T g cap : Nat} {xs : List X}
theorem h_shr {t t2 : TypeId} {x y : Operand} {q q2 : IntKind} {a b : Int} (ho : o.op = .binOp .shr t x y t2) (hx : e.op x = some (.int q a)) (hy : e.op y = some (.int q2 b)) (hb : 0 ≤ b ∧ b ≤ q.bits)
    {dd : Nat} (hdst : o.dst = some dd) (hd : okD n (some dd) = true) (h : HX P n ds ops ev wk K r (k + 1) ((dd, .int q (a / 2 ^ b.toNat)) :: e) C) : HX1 P n ds ops ev wk K o r k e C :=
  hx1_pure (by rw [ho]; rfl) hdst hd (fun a' w ha => by
    simp [execOp, ho, eqGuard, binOp, ha.eval hx, ha.eval hy, shift_shr q q2 a b hb.1 hb.2]) h
theorem h_shl {t t2 : TypeId} {x y : Operand} {q q2 : IntKind} {a b : Int} (ho : o.op = .binOp .shl t x y t2) (hx : e.op x = some (.int q a)) (hy : e.op y = some (.int q2 b)) (hb : 0 ≤ b ∧ b ≤ q.bits)
    {dd : Nat} (hdst : o.dst = some dd) (hd : okD n (some dd) = true) (h : HX P n ds ops ev wk K r (k + 1) ((dd, .int q (q.wrap (a * 2 ^ b.toNat))) :: e) C) : HX1 P n ds ops ev wk K o r k e C :=
  hx1_pure (by rw [ho]; rfl) hdst hd (fun a' w ha => by
    simp [execOp, ho, eqGuard, binOp, ha.eval hx, ha.eval hy, shift_shl q q2 a b hb.1 hb.2]) h
theorem h_bits {op : BinOp} {t t2 : TypeId} {x y : Operand} {q : IntKind} {a b : Int} {v : Value} (ho : o.op = .binOp op t x y t2) (hx : e.op x = some (.int q a)) (hy : e.op y = some (.int q b))
    (hv : (match op with | .xor => some (Value.int q (bits .xor q a b)) | .or => some (.int q (bits .or q a b)) | .and => some (.int q (bits .and q a b)) | _ => none) = some v)
    {dd : Nat} (hdst : o.dst = some dd) (hd : okD n (some dd) = true) (h : HX P n ds ops ev wk K r (k + 1) ((dd, v) :: e) C) : HX1 P n ds ops ev wk K o r k e C :=
  hx1_pure (by rw [ho]; rfl) hdst hd (fun a' w ha => by
    cases op <;> simp at hv <;> subst hv <;> simp [execOp, ho, eqGuard, binOp, ha.eval hx, ha.eval hy, intBits_xor, intBits_or, intBits_and]) h
/-- An element of an array by value. -/
theorem h_index {t el len sz : Nat} {x y : Operand} {d : TypeDesc} {cs : Array Value} {q : IntKind} {i : Int} {v : Value} (ho : o.op = .index t x y) (hx : e.op x = some (.agg cs)) (hy : e.op y = some (.int q i)) (hu : P.underlying t = some (.array len el)) (hu2 : P.underlying el = some d) (hna : aggD d = false) (hs : SizeOf P el sz)
    (h0 : 0 ≤ i ∧ i < len) (hv : cs[i.toNat * sz]? = some v) {dd : Nat} (hdst : o.dst = some dd) (hd : okD n (some dd) = true) (h : HX P n ds ops ev wk K r (k + 1) ((dd, v) :: e) C) : HX1 P n ds ops ev wk K o r k e C :=
  hx1_pure (by rw [ho]; rfl) hdst hd (fun a w ha => by
    simp [execOp, ho, ha.eval hx, ha.eval hy, Instr.index, asIntOf, run_und hu, h0.1, h0.2, run_size hs, part, run_isAgg hu2, hna, hv]) h
/-- The place of an element of an array in memory. -/
theorem h_indexAddrA {t el len b off sz : Nat} {x y : Operand} {q : IntKind} {i : Int} (ho : o.op = .indexAddr t x y) (hx : e.op x = some (.pointer (some ⟨b, off, none⟩))) (hy : e.op y = some (.int q i)) (hu : P.underlying t = some (.array len el)) (hs : SizeOf P el sz)
    (h0 : 0 ≤ i ∧ i < len) {dd : Nat} (hdst : o.dst = some dd) (hd : okD n (some dd) = true) (h : HX P n ds ops ev wk K r (k + 1) ((dd, .pointer (some ⟨b, off + i.toNat * sz, none⟩)) :: e) C) : HX1 P n ds ops ev wk K o r k e C :=
  hx1_pure (by rw [ho]; rfl) hdst hd (fun a w ha => by
    have e1 : (⟨b, off, none⟩ : Addr).add (i.toNat * sz) = ⟨b, off + i.toNat * sz, none⟩ := add_lit _ _ _
    simp [execOp, ho, ha.eval hx, ha.eval hy, Instr.indexAt, asIntOf, run_und hu, h0.1, h0.2, run_size hs, Instr.sureAddr, e1]) h
/-- Several cells of a block are loaded. -/
theorem h_loadP {t b off s : Nat} {x : Operand} {cs cs' : Array Value} {bt : TypeId} {fz : Nat × Nat} {d : TypeDesc} (ho : o.op = .load t x) (hx : e.op x = some (.pointer (some ⟨b, off, none⟩))) (hu : P.underlying t = some d) (hna : aggD d = true) (hs : SizeOf P t s)
    (hp : Pull L (Blk b (.cells cs bt fz)) L') (hl : Nat.ble (off + s) cs.toList.length = true) (hcs : ((cs.toList.drop off).take s).toArray = cs') {dd : Nat} (hdst : o.dst = some dd) (hd : okD n (some dd) = true) (h : HX P n ds ops ev wk K r (k + 1) ((dd, .agg cs') :: e) (St w0 F0 L)) : HX1 P n ds ops ev wk K o r k e (St w0 F0 L) := by
  have hl' := Nat.le_of_ble_eq_true hl
  subst hcs
  exact h_loadN (vs := (cs.toList.drop off).take s) ho hx hu hna hs hp (by rw [List.length_take, List.length_drop]; omega) (fun j v hj => by
    have hjs : j < s := by
      have := (List.getElem?_eq_some_iff.1 hj).1
      rw [List.length_take] at this
      omega
    rw [List.getElem?_take_of_lt hjs, List.getElem?_drop] at hj
    simpa using hj) hdst hd h
/-- make([]T, l, c). -/
theorem h_makeSlice (E : Elem X) {t T by_ : Nat} {x y : Operand} {kl kc : IntKind} {l c : Nat} {zv : Value} (z : X) (hev : ev k = true) (ho : o.op = .makeSlice t x y) (hx : e.op x = some (.int kl (l : Int))) (hy : e.op y = some (.int kc (c : Int))) (hu : P.underlying t = some (.slice T)) (hi : ∃ i, P.info? T = some i ∧ i.size = E.sz ∧ i.bytes = by_ ∧ i.zero = some zv) (hz : zv.cells.toList = E.enc z)
    (hlc : l ≤ c) (hm : c ≤ maxLen) (hbytes : by_ * c ≤ 140737488355328) {dd : Nat} (hdst : o.dst = some dd) (hd : okD n (some dd) = true)
    (h : ∀ b, HX P n ds ops ev wk K r (k + 1) ((dd, .slice (some ⟨b, 0, none⟩) l c) :: e) (St w0 F0 (Row E T b c (List.replicate l z) :: L))) : HX1 P n ds ops ev wk K o r k e (St w0 F0 L) :=
  hx1_event hev (fun a w ha hC => by
    obtain ⟨i, i1, i2, i3, i4⟩ := hi
    have hb' : (i.bytes : Int) * (c : Int) ≤ 281474976710656 := by
      have h1 : ((i.bytes * c : Nat) : Int) ≤ 281474976710656 := by rw [i3]; omega
      rwa [Int.natCast_mul] at h1
    have h63' : (c : Int) ≤ 9223372036854775807 := by simp only [maxLen] at hm; omega
    have hr := run_make (P := P) w t T i zv hu i1 i4 kl kc (l : Int) (c : Int) (by omega) (by omega) hb' h63'
    simp only [Int.toNat_natCast] at hr
    unfold Oper.wp
    have : (execOp a.eval o).run P w = .ok (.value (.slice (some ⟨w.heap.size, 0, none⟩) l c)) (w.alloc (.cells (madeCells zv.cells (c * i.size)) T)) := by
      simp [execOp, ho, ha.eval hx, ha.eval hy, hr]
    rw [this]
    refine ⟨_, _, ?_, fun _ _ hh => hh.drop, (by rw [hdst]; exact ha.put hd _), h _⟩
    refine (hC.new _).map (A := Blk w.heap.size (.cells (madeCells zv.cells (c * i.size)) T (0, 0))) (B := Row E T w.heap.size c (List.replicate l z)) fun F hp => ?_
    obtain ⟨p1, p2⟩ := hp
    refine ⟨p1, _, p2, by simpa using hlc, hm, by rw [size_madeCells, i2], fun j q hq jj u hj => ?_⟩
    have hjl : j < l := by
      have := (List.getElem?_eq_some_iff.1 hq).1
      simpa using this
    have hqz : q = z := by
      rw [List.getElem?_replicate, if_pos hjl] at hq
      exact (Option.some.inj hq).symm
    subst hqz
    have hjs : jj < E.sz := by
      have := (List.getElem?_eq_some_iff.1 hj).1
      rwa [E.len] at this
    have hzs : zv.cells.size = E.sz := by rw [← E.len q, ← hz]; simp
    have hlt : j * E.sz + jj < c * i.size := by rw [i2]; exact row_lt (by omega) hjs
    have hmod : (j * E.sz + jj) % E.sz = jj := by rw [Nat.mul_comm, Nat.mul_add_mod, Nat.mod_eq_of_lt hjs]
    rw [← hz] at hj
    simp only [madeCells, Array.getElem?_map, Array.getElem?_range, hlt, if_true, Option.map_some, hzs, hmod]
    have : zv.cells[jj]? = some u := by simpa using hj
    simp [getElem!_def, this])
/-- copy(d, s) of bytes, d an array of its own. -/
theorem h_copy {g cap T sT : Nat} {x y : Operand} {t : Nat} {v : Value} {xs ys : List Int} (hev : ev k = true) (hwk : wk k = false) (ho : o.op = .call { callee := .builtin .copy, args := #[x, y], argTypes := #[t, sT] }) (hp : Pull L (Row byteE T g cap xs) L') (hx : e.op x = some (.slice (some ⟨g, 0, none⟩) xs.length cap)) (hy : e.op y = some v) (hu : P.underlying t = some (.slice T)) (hs : SizeOf P T 1)
    (hr : ∀ w, St w0 F0 L w → Rd byteE w v ys) {dd : Nat} (hdst : o.dst = some dd) (hd : okD n (some dd) = true)
    (h : HX P n ds ops ev wk K r (k + 1) ((dd, .int .i64 ((min ys.length xs.length : Nat) : Int)) :: e) (St w0 F0 (Row byteE T g cap (ys.take xs.length ++ xs.drop ys.length) :: L'))) : HX1 P n ds ops ev wk K o r k e (St w0 F0 L) :=
  hx1_event hev (fun a w ha hC => by
    obtain ⟨ya, yc, rfl, y1, y2, y3⟩ := hr w hC
    have hC' := hC.perm hp.perm
    have hs' : (P.info? T).map (·.size) = some 1 := by
      obtain ⟨i, h1, h2⟩ := hs
      rw [h1]; simp [h2]
    by_cases h0 : Nat.min ys.length xs.length = 0
    · have hrun := run_copy_none (P := P) w t sT o.type T (some ⟨g, 0, none⟩) ya xs.length cap ys.length yc hu hs' h0
      have : (execOp a.eval o).run P w = .ok (.value (goInt 0)) w := by
        simp [execOp, ho, resolve, invoke, builtin, ha.eval hx, ha.eval hy, hrun]
      unfold Oper.wp
      rw [this]
      refine ⟨_, _, ?_, (fun h => by rw [hwk] at h; cases h), (by rw [hdst]; exact ha.put hd _), (by
        have hm : min ys.length xs.length = 0 := h0
        rw [hm] at h
        exact h)⟩
      have e1 : ys.take xs.length ++ xs.drop ys.length = xs := by
        have : min ys.length xs.length = 0 := h0
        rcases Nat.eq_zero_or_pos ys.length with e | e
        · have : ys = [] := List.eq_nil_of_length_eq_zero e
          subst this
          simp
        · have : xs = [] := List.eq_nil_of_length_eq_zero (by omega)
          subst this
          simp
      rw [e1]
      exact hC'
    · have hy0 : ys ≠ [] := fun e => h0 (by subst e; simp)
      obtain ⟨g2, off2, rfl, hc⟩ := y3.resolve_left hy0
      obtain ⟨F1, hrow, hput⟩ := hC'.split1
      obtain ⟨h1, cur, hb, h3, h4, h5, h6⟩ := id hrow
      have h5' : cur.size = cap := by rw [h5]; exact Nat.mul_one _
      obtain ⟨cs, hcs⟩ : ∃ cs, cs = (ys.take xs.length).map (Value.int .u8) := ⟨_, rfl⟩
      have hcl : cs.length = Nat.min ys.length xs.length := by rw [hcs, List.length_map, List.length_take]; exact Nat.min_comm _ _
      have hcl' : cs.length ≤ xs.length := by rw [hcl]; exact Nat.min_le_right _ _
      have hrun := run_copy_row (P := P) w t sT o.type T g 0 xs.length cap ⟨g2, off2, none⟩ ys.length yc cur T cs hu hs' hb hcl (fun j u hj => by
        rw [hcs, List.getElem?_map] at hj
        cases hq : (ys.take xs.length)[j]? with
        | none => rw [hq] at hj; cases hj
        | some q =>
          rw [hq] at hj
          injection hj with hj
          subst hj
          rw [add_lit]
          have hq' : ys[j]? = some q := by
            rw [List.getElem?_take] at hq
            split at hq
            · exact hq
            · cases hq
          have := hc j q hq' 0 (.int .u8 q) rfl
          simpa [byteE] using this) (by omega) (fun u hu => by
        rw [hcs] at hu
        obtain ⟨q, _, rfl⟩ := List.mem_map.1 hu
        rfl)
      have : (execOp a.eval o).run P w = .ok (.value (goInt cs.length)) (w.setRow g (cur.toList.take 0 ++ cs ++ cur.toList.drop (0 + cs.length)).toArray) := by
        simp [execOp, ho, resolve, invoke, builtin, ha.eval hx, ha.eval hy, hrun]
      unfold Oper.wp
      rw [this]
      refine ⟨_, _, hput _ [Row byteE T g cap (ys.take xs.length ++ xs.drop ys.length)] ?_, (fun h => by rw [hwk] at h; cases h), (by rw [hdst]; exact ha.put hd _), (by
        have e2 : goInt cs.length = .int .i64 ((min ys.length xs.length : Nat) : Int) := by rw [hcl]; rfl
        rw [e2]
        exact h)⟩
      refine st_one (G := fun x => x = g) ?_ ⟨rfl, rfl, rfl, by simp, fun j hj hn => setRow_other _ _ _ _ (fun e0 => hn (by rw [e0]; exact (h1 g).2 rfl))⟩ (fun x hx => .inl ((h1 x).2 hx))
      refine ⟨fun _ => Iff.rfl, _, setRow_heap _ _ _ _ _ _ hb, ?_, h4, ?_, fun j q hq jj u hj => ?_⟩
      · rw [List.length_append, List.length_take, List.length_drop]; omega
      · simp only [List.size_toArray, List.length_append, List.length_take, List.length_drop, Array.length_toList, h5']
        show _ = cap * 1
        omega
      · have hjj : jj = 0 := by
          have := (List.getElem?_eq_some_iff.1 hj).1
          have h2 : (byteE.enc q).length = 1 := rfl
          omega
        subst hjj
        have hu' : u = .int .u8 q := by simpa [byteE] using hj.symm
        subst hu'
        show (cur.toList.take 0 ++ cs ++ cur.toList.drop (0 + cs.length)).toArray[j * 1 + 0]? = _
        simp only [List.take_zero, List.nil_append, Nat.mul_one, Nat.add_zero, Nat.zero_add, List.getElem?_toArray]
        rcases Nat.lt_or_ge j cs.length with hlt | hge
        · rw [List.getElem?_append_left hlt, hcs, List.getElem?_map]
          rw [List.getElem?_append_left (by rw [hcs, List.length_map] at hlt; exact hlt)] at hq
          rw [hq]
          rfl
        · rw [List.getElem?_append_right hge, List.getElem?_drop]
          have htl : (ys.take xs.length).length = cs.length := by rw [hcs, List.length_map]
          rw [List.getElem?_append_right (by rw [htl]; exact hge), htl, List.getElem?_drop] at hq
          have hlen2 : ys.length ≤ xs.length ∨ xs.length < ys.length := by omega
          have hjx : xs[j]? = some q := by
            rw [← hq]
            congr 1
            have hcl2 : cs.length = min ys.length xs.length := hcl
            rcases hlen2 with h2 | h2
            · omega
            · exfalso
              have := (List.getElem?_eq_some_iff.1 hq).1
              omega
          have := h6 j q hjx 0 (.int .u8 q) rfl
          have e3 : cs.length + (j - cs.length) = j := by omega
          rw [e3]
          simpa [byteE] using this)
/-- string(b). -/
def strOf (ns : List Int) : ByteArray := ns.foldl (fun r n => r.push (UInt8.ofNat n.toNat)) ByteArray.empty
theorem h_toString {src dst el : TypeId} {x : Operand} {v : Value} {xs : List Int} (ho : o.op = .convert src dst x) (hx : e.op x = some v) (hu : P.underlying src = some (.slice el)) (hu2 : P.underlying dst = some .string) (hu3 : P.underlying el = some (.int .u8))
    (hr : ∀ w, C w → Rd byteE w v xs)
    {dd : Nat} (hdst : o.dst = some dd) (hd : okD n (some dd) = true) (h : HX P n ds ops ev wk K r (k + 1) ((dd, .string (strOf xs)) :: e) C) : HX1 P n ds ops ev wk K o r k e C :=
  hx1_read (by rw [ho]; rfl) (by rw [ho]; rfl) hdst hd (fun a w ha hC => by
    obtain ⟨ya, yc, rfl, y1, y2, y3⟩ := hr w hC
    have key : (Conv.bytesToString (.slice ya xs.length yc)).run P w = .ok (.string (strOf xs)) w := by
      cases ya with
      | none =>
        have : xs = [] := by
          rcases y3 with h | ⟨g, off, h, _⟩
          · exact h
          · cases h
        subst this
        rfl
      | some a0 =>
        refine run_bytesToString w a0 xs.length yc xs ?_
        have := run_loadCells_list (P := P) w a0 (xs.map (Value.int .u8)) (fun j u hj => by
          rw [List.getElem?_map] at hj
          cases hq : xs[j]? with
          | none => rw [hq] at hj; cases hj
          | some q =>
            rw [hq] at hj
            injection hj with hj
            subst hj
            rcases y3 with h | ⟨g, off, h, hc⟩
            · subst h; cases hq
            · injection h with h
              subst h
              rw [add_lit]
              have := hc j q hq 0 (.int .u8 q) rfl
              simpa [byteE] using this)
        simpa using this
    simp [execOp, ho, ha.eval hx, convert, run_und hu, run_und hu2, run_und hu3, key]) h
/-- append(s, d...), d a slice that can be read. -/
theorem h_appendRd {x y : Operand} {t by_ : Nat} {zv : Value} {v vy : Value} {ys : List X} (hev : ev k = true) (hwk : wk k = false)
    (ho : o.op = .call { callee := .builtin .append, args := #[x, y], argTypes := #[t, t] }) (hx : e.op x = some v) (hy : e.op y = some vy) (hu : P.underlying t = some (.slice T)) (hi : ∃ i, P.info? T = some i ∧ i.size = E.sz ∧ i.bytes = by_ ∧ i.zero = some zv) (hzv : zv.cells.size = E.sz)
    (hp : Pull L (RowV E T v xs) L') (hr : ∀ w, St w0 F0 L w → Rd E w vy ys) (hy0 : ys ≠ [])
    (h63 : xs.length + ys.length ≤ maxLen) (hbytes : (xs.length + ys.length) * by_ ≤ 140737488355328) {dd : Nat} (hdst : o.dst = some dd) (hd : okD n (some dd) = true)
    (h : ∀ v', HX P n ds ops ev wk K r (k + 1) ((dd, v') :: e) (St w0 F0 (RowV E T v' (xs ++ ys) :: L'))) : HX1 P n ds ops ev wk K o r k e (St w0 F0 L) :=
  hx1_event hev (fun a w ha hC => by
    obtain ⟨ya, yc, rfl, y1, y2, y3⟩ := hr w hC
    obtain ⟨gb, ob, rfl, hcell⟩ := y3.resolve_left hy0
    have hC' : St w0 F0 (RowV E T v xs :: L') w := hC.perm hp.perm
    obtain ⟨F1, hrow, hput⟩ := hC'.split1
    obtain ⟨i, i1, i2, i3, i4⟩ := hi
    obtain ⟨fl, hown, hfl, hF1⟩ := RowV.owns hrow
    have hnl : (ys.flatMap E.enc).length = ys.length * E.sz := enc_len E ys
    have hnc : ∀ j u, (ys.flatMap E.enc)[j]? = some u → w.cell? ((⟨gb, ob, none⟩ : Addr).add j) = some u := fun j u hj => by
      obtain ⟨i, q, j', h1, h2, rfl⟩ := enc_of E _ _ _ hj
      rw [add_lit, ← Nat.add_assoc]
      exact hcell i q h1 j' u h2
    have h1c : ∀ u ∈ ys.flatMap E.enc, u.oneCell' = true := fun u hu => by
      obtain ⟨q, _, hq⟩ := List.mem_flatMap.1 hu
      exact E.one q u hq
    obtain ⟨v', w', hrun, hown', hgr, hnil⟩ := run_append_own (P := P) (w := w) 0 t o.type T i zv E.sz by_ hu i1 i4 i2 i3 hzv E.pos v xs.length fl hown ⟨gb, ob, none⟩ ys.length yc (ys.flatMap E.enc) hnl hnc h1c h63 hbytes (Nat.zero_le _)
    have : (execOp a.eval o).run P w = .ok (.value v') w' := by
      simp [execOp, ho, resolve, invoke, builtin, ha.eval hx, ha.eval hy, hrun]
    unfold Oper.wp
    rw [this]
    refine ⟨_, _, hput w' [RowV E T v' (xs ++ ys)] ?_, (fun h => by rw [hwk] at h; cases h), by rw [hdst]; exact ha.put hd v', h v'⟩
    have hown2 : w'.ownsRow 0 T E.sz v' (xs ++ ys).length (fl ++ ys.flatMap E.enc) := by rw [List.length_append]; exact hown'
    have hnew := RowV.of_owns (E := E) (xs := xs ++ ys) hown2 (fun i q hq j u hj => by
      have hjs : j < E.sz := by
        have := (List.getElem?_eq_some_iff.1 hj).1
        rwa [E.len] at this
      rcases Nat.lt_or_ge i xs.length with hlt | hge
      · rw [List.getElem?_append_left hlt] at hq
        rw [List.getElem?_append_left (by rw [hown.1]; exact row_lt hlt hjs)]
        exact hfl i q hq j u hj
      · rw [List.getElem?_append_right hge] at hq
        have hle : fl.length ≤ i * E.sz + j := by rw [hown.1]; exact Nat.le_trans (Nat.mul_le_mul_right _ hge) (Nat.le_add_right _ _)
        rw [List.getElem?_append_right hle, hown.1]
        have := enc_at E ys (i - xs.length) q hq j u hj
        rw [← this]
        congr 1
        rw [Nat.sub_mul]
        have := Nat.mul_le_mul_right E.sz hge
        omega)
    refine st_one hnew ⟨hgr.os, hgr.tape, hgr.output, hgr.size, fun j hj hn => hgr.block j hj fun e => hn ((hF1 j).1 e.symm)⟩ (fun x hx => ?_)
    rcases append_block (P := P) hu i1 i4 i2 i3 hzv E.pos hown hnl hnc h1c h63 hbytes hrun x hx with h | h
    · exact .inl ((hF1 x).1 h)
    · exact .inr h)
/-- A conversion that only marks an array. -/
theorem h_convMark {t el b len cap : Nat} {x : Operand} {cs : Array Value} {bt : TypeId} (hev : ev k = true) (hwk : wk k = false) (ho : o.op = .convert t t x) (hx : e.op x = some (.slice (some ⟨b, 0, none⟩) len cap)) (hu : P.underlying t = some (.slice el)) (hu3 : P.underlying el = some (.int .u8))
    (hp : Pull L (Blk b (.cells cs bt (0, 0))) L') {dd : Nat} (hdst : o.dst = some dd) (hd : okD n (some dd) = true)
    (h : ∀ fz, HX P n ds ops ev wk K r (k + 1) ((dd, .slice (some ⟨b, 0, none⟩) len cap) :: e) (St w0 F0 (Blk b (.cells cs bt fz) :: L'))) : HX1 P n ds ops ev wk K o r k e (St w0 F0 L) :=
  hx1_event hev (fun a w ha hC => by
    have hC' := hC.perm hp.perm
    have hb := hC'.blk
    have hsh : w.shape? b = some (bt, cs.size) := by simp [World.shape?, hb]
    have hrun : (execOp a.eval o).run P w = .ok (.value (.slice (some ⟨b, 0, none⟩) len cap)) (w.freeze ⟨b, cs.size, none⟩ 1) := by
      simp [execOp, ho, ha.eval hx, convert, run_und hu, run_und hu3, markStringish, hsh, Result.andThen]
    unfold Oper.wp
    rw [hrun]
    refine ⟨_, _, hC'.put (o' := .cells cs bt (cs.size, cs.size + 1)) ⟨rfl, rfl, rfl, by simp [World.freeze], fun j hj hn => by
      show (w.heap.modify b _)[j]? = _
      rw [Array.getElem?_modify, if_neg (fun h => hn h.symm)]⟩ ?_, (fun h => by rw [hwk] at h; cases h), (by rw [hdst]; exact ha.put hd _), h _⟩
    simp [World.freeze, Array.getElem?_modify, hb])
end
end Go.Proofs.YtjnnlfeohbidhaaDoor
