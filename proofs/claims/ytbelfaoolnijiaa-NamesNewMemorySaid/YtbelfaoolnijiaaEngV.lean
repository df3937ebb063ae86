import Derived.Test.YtbelfaoolnijiaaEngT
import Derived.Laws.Concat
namespace Go.Proofs.Ytbelfaoolnijiaa
open Go Go.Proofs Go.RowKit
set_option maxRecDepth 4000

section
variable {X : Type} {P : Program} {n : Nat} {ds : List Deferred} {ops : Array Oper} {ev wk : Nat → Bool} {K : Env → (World → Prop) → Prop} {r : List Oper} {o : Oper} {k : Nat} {e : Env} {w0 : World} {F0 : Nat → Prop} {L L' : List Asn} {E : Elem X} {T : Nat} {xs : List X}
/-- append(s, t...) of what is only read: an array comes of it. -/
theorem h_appendRdV {x y : Operand} {t by_ : Nat} {zv : Value} {v vy : Value} {ys : List X} (hev : ev k = true) (hwk : wk k = false)
    (ho : o.op = .call { callee := .builtin .append, args := #[x, y], argTypes := #[t, t] }) (hx : e.op x = some v) (hy : e.op y = some vy) (hu : P.underlying t = some (.slice T)) (hi : ∃ i, P.info? T = some i ∧ i.size = E.sz ∧ i.bytes = by_ ∧ i.zero = some zv) (hzv : zv.cells.size = E.sz)
    (hp : Pull L (RowV E T v xs) L') (hr : ∀ w, St w0 F0 L w → Rd E w vy ys) (hy0 : ys ≠ [])
    (h63 : xs.length + ys.length ≤ maxLen) (hbytes : (xs.length + ys.length) * by_ ≤ 140737488355328) {dd : Nat} (hdst : o.dst = some dd) (hd : okD n (some dd) = true)
    (h : ∀ g' cap', HX P n ds ops ev wk K r (k + 1) ((dd, .slice (some ⟨g', 0, none⟩) (xs ++ ys).length cap') :: e) (St w0 F0 (RowV E T (.slice (some ⟨g', 0, none⟩) (xs ++ ys).length cap') (xs ++ ys) :: L'))) : HX1 P n ds ops ev wk K o r k e (St w0 F0 L) :=
  hx1_event hev (fun a w ha hC => by
    obtain ⟨ya, yc, rfl, y1, y2, y3⟩ := hr w hC
    obtain ⟨gb, ob, rfl, hcell⟩ := y3.resolve_left hy0
    have hC' : St w0 F0 (RowV E T v xs :: L') w := hC.perm hp.perm
    obtain ⟨F1, hrow, hput⟩ := hC'.split1
    obtain ⟨i, i1, i2, i3, i4⟩ := hi
    obtain ⟨fl, hown, hfl, hF1⟩ := RowV.owns hrow
    have hnl : (ys.flatMap E.enc).length = ys.length * E.sz := enc_len E ys
    have hnc : ∀ j u, (ys.flatMap E.enc)[j]? = some u → w.cell? ((⟨gb, ob, none⟩ : Addr).add j) = some u := fun j u hj => by
      obtain ⟨i, q, j', h1, h2, rfl⟩ := enc_of E _ _ _ hj
      rw [add_lit, ← Nat.add_assoc]
      exact hcell i q h1 j' u h2
    have h1c : ∀ u ∈ ys.flatMap E.enc, u.oneCell' = true := fun u hu => by
      obtain ⟨q, _, hq⟩ := List.mem_flatMap.1 hu
      exact E.one q u hq
    obtain ⟨v', w', hrun, hown', hgr, hnil⟩ := run_append_own (P := P) (w := w) 0 t o.type T i zv E.sz by_ hu i1 i4 i2 i3 hzv E.pos v xs.length fl hown ⟨gb, ob, none⟩ ys.length yc (ys.flatMap E.enc) hnl hnc h1c h63 hbytes (Nat.zero_le _)
    have : (execOp a.eval o).run P w = .ok (.value v') w' := by
      simp [execOp, ho, resolve, invoke, builtin, ha.eval hx, ha.eval hy, hrun]
    unfold Oper.wp
    rw [this]
    have hst : St w0 F0 (RowV E T v' (xs ++ ys) :: L') w' := by
      refine hput w' [RowV E T v' (xs ++ ys)] ?_
      have hown2 : w'.ownsRow 0 T E.sz v' (xs ++ ys).length (fl ++ ys.flatMap E.enc) := by rw [List.length_append]; exact hown'
      have hnew := RowV.of_owns (E := E) (xs := xs ++ ys) hown2 (fun i q hq j u hj => by
        have hjs : j < E.sz := by
          have := (List.getElem?_eq_some_iff.1 hj).1
          rwa [E.len] at this
        rcases Nat.lt_or_ge i xs.length with hlt | hge
        · rw [List.getElem?_append_left hlt] at hq
          rw [List.getElem?_append_left (by rw [hown.1]; exact row_lt hlt hjs)]
          exact hfl i q hq j u hj
        · rw [List.getElem?_append_right hge] at hq
          have hle : fl.length ≤ i * E.sz + j := by rw [hown.1]; exact Nat.le_trans (Nat.mul_le_mul_right _ hge) (Nat.le_add_right _ _)
          rw [List.getElem?_append_right hle, hown.1]
          have := enc_at E ys (i - xs.length) q hq j u hj
          rw [← this]
          congr 1
          rw [Nat.sub_mul]
          have := Nat.mul_le_mul_right E.sz hge
          omega)
      refine st_one hnew ⟨hgr.os, hgr.tape, hgr.output, hgr.size, fun j hj hn => hgr.block j hj fun e => hn ((hF1 j).1 e.symm)⟩ (fun x hx => ?_)
      rcases append_block (P := P) hu i1 i4 i2 i3 hzv E.pos hown hnl hnc h1c h63 hbytes hrun x hx with h | h
      · exact .inl ((hF1 x).1 h)
      · exact .inr h
    rcases St.rowV.1 hst with ⟨_, e1, _⟩ | ⟨g', cap', rfl, hst'⟩
    · exact absurd (List.append_eq_nil_iff.1 e1).2 hy0
    · exact ⟨_, _, hst'.rowV_mk, (fun h => by rw [hwk] at h; cases h), by rw [hdst]; exact ha.put hd _, h g' cap'⟩)
/-- append(nil, t...) of what is only read. -/
theorem h_appendNew {x y : Operand} {t by_ : Nat} {zv : Value} {vy : Value} (ys : List X) (hev : ev k = true) (hwk : wk k = false)
    (ho : o.op = .call { callee := .builtin .append, args := #[x, y], argTypes := #[t, t] }) (hx : e.op x = some (.slice none 0 0)) (hy : e.op y = some vy) (hu : P.underlying t = some (.slice T)) (hi : ∃ i, P.info? T = some i ∧ i.size = E.sz ∧ i.bytes = by_ ∧ i.zero = some zv) (hzv : zv.cells.size = E.sz) (hs : SizeOf P T E.sz)
    (hr : ∀ w, St w0 F0 L w → Rd E w vy ys) (hsh : ∃ a c, vy = .slice a ys.length c)
    (h63 : ys.length ≤ maxLen) (hbytes : ys.length * by_ ≤ 140737488355328) {dd : Nat} (hdst : o.dst = some dd) (hd : okD n (some dd) = true)
    (h : ∀ a c, HX P n ds ops ev wk K r (k + 1) ((dd, .slice a ys.length c) :: e) (St w0 F0 (RowV E T (.slice a ys.length c) ys :: L))) : HX1 P n ds ops ev wk K o r k e (St w0 F0 L) := by
  refine hx1_conv hev hwk (C' := St w0 F0 (RowV E T (.slice none 0 0) [] :: L)) (fun _ h => h.rowV_nil) ?_
  by_cases hy0 : ys = []
  · subst hy0
    obtain ⟨a, c, rfl⟩ := hsh
    exact h_appendNone hev ho hx hy hu hs (Nat.le_refl _) hdst hd (h none 0)
  · exact h_appendRdV (xs := []) hev hwk ho hx hy hu hi hzv .head (fun w hw => hr w hw.drop) hy0 (by simpa using h63) (by simpa using hbytes) hdst hd (fun g' cap' => h (some ⟨g', 0, none⟩) cap')
end
section
variable {P : Program} {n : Nat} {ds : List Deferred} {ops : Array Oper} {ev wk : Nat → Bool} {K : Env → (World → Prop) → Prop} {r : List Oper} {o : Oper} {k : Nat} {e : Env} {C : World → Prop}
/-- Texts one behind the other. -/
theorem h_concat {t t2 : TypeId} {x y : Operand} {a b : ByteArray} (ho : o.op = .binOp .add t x y t2) (hx : e.op x = some (.string a)) (hy : e.op y = some (.string b)) (hl : a.size + b.size ≤ 9223372036854775807)
    {dd : Nat} (hdst : o.dst = some dd) (hd : okD n (some dd) = true) (h : HX P n ds ops ev wk K r (k + 1) ((dd, .string (a ++ b)) :: e) C) : HX1 P n ds ops ev wk K o r k e C :=
  hx1_pure (by rw [ho]; rfl) hdst hd (fun a' w ha => by
    simp [execOp, ho, eqGuard, binOp, ha.eval hx, ha.eval hy, run_string_add_sum w a b hl]) h
/-- min. -/
theorem h_min2 {x y : Operand} {ats : Array TypeId} {a b : Int} (c : Int) (hc : (if b < a then b else a) = c) (hev : ev k = true) (ho : o.op = .call { callee := .builtin .min, args := #[x, y], argTypes := ats }) (hx : e.op x = some (.int .i64 a)) (hy : e.op y = some (.int .i64 b))
    {dd : Nat} (hdst : o.dst = some dd) (hd : okD n (some dd) = true) (h : HX P n ds ops ev wk K r (k + 1) ((dd, .int .i64 c) :: e) C) : HX1 P n ds ops ev wk K o r k e C :=
  hx1_event hev (fun a' w ha hC => by
    have : (execOp a'.eval o).run P w = .ok (.value (.int .i64 c)) w := by
      simp [execOp, ho, resolve, invoke, builtin, ha.eval hx, ha.eval hy, run_min_int2, hc]
    unfold Oper.wp
    rw [this]
    exact ⟨C, _, hC, fun _ _ h => h, by rw [hdst]; exact ha.put hd _, h⟩)
end
end Go.Proofs.Ytbelfaoolnijiaa
