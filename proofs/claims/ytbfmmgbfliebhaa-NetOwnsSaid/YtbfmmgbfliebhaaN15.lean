import Derived.Test.YtbfmmgbfliebhaaN14
import Derived.Test.YtbfmmgbfliebhaaEngP
namespace Go.Proofs.Ytbfmmgbfliebhaa
open Go Go.Proofs Go.RowKit
set_option maxRecDepth 4000

section
variable {X : Type} {P : Program} {n : Nat} {ds : List Deferred} {ops : Array Oper} {ev wk : Nat → Bool} {K : Env → (World → Prop) → Prop} {r : List Oper} {o : Oper} {k : Nat} {e : Env} {w0 : World} {F0 : Nat → Prop} {L L' : List Asn} {E : Elem X} {T : Nat} {xs : List X}
theorem St.rowM_shape {v : Value} {w : World} (h : St w0 F0 L w) (hp : Pull L (RowM E T v xs) L') : ∃ a cap, v = .slice a xs.length cap ∧ xs.length ≤ cap ∧ cap ≤ maxLen := by
  obtain ⟨F, hF⟩ := h.get hp
  rcases hF with ⟨rfl, rfl, _⟩ | ⟨g, c0, cap, cur, rfl, h1, h2, h3, h4, h5, h6⟩
  · exact ⟨none, 0, rfl, Nat.le_refl _, by unfold maxLen; omega⟩
  · exact ⟨_, cap, rfl, h3, h4⟩
/-- append(s, ..) to a slice that need not begin with its array. -/
theorem h_appendM {x y : Operand} {t b m c by_ : Nat} {zv : Value} {v : Value} {cs : Array Value} {bt : Nat} {fz : Nat × Nat} {ys : List X} (hev : ev k = true) (hwk : wk k = false)
    (ho : o.op = .call { callee := .builtin .append, args := #[x, y], argTypes := #[t, t] }) (hx : e.op x = some v) (hy : e.op y = some (.slice (some ⟨b, 0, none⟩) m c)) (hu : P.underlying t = some (.slice T)) (hi : ∃ i, P.info? T = some i ∧ i.size = E.sz ∧ i.bytes = by_ ∧ i.zero = some zv) (hzv : zv.cells.size = E.sz)
    (hp : Pulls L [RowM E T v xs, Blk b (.cells cs bt fz)] L') (hm : ys.length = m) (hcs : ∀ i q, ys[i]? = some q → ∀ j u, (E.enc q)[j]? = some u → cs[i * E.sz + j]? = some u)
    (h63 : xs.length + m ≤ maxLen) (hbytes : (xs.length + m) * by_ ≤ 140737488355328) {dd : Nat} (hdst : o.dst = some dd) (hd : okD n (some dd) = true)
    (h : ∀ a cap, HX P n ds ops ev wk K r (k + 1) ((dd, .slice a (xs ++ ys).length cap) :: e) (St w0 F0 (RowM E T (.slice a (xs ++ ys).length cap) (xs ++ ys) :: Blk b (.cells cs bt fz) :: L'))) : HX1 P n ds ops ev wk K o r k e (St w0 F0 L) :=
  hx1_event hev (fun a w ha hC => by
    obtain ⟨v', w', hrun, hst⟩ := appendM_core (ys := ys) ho hx hy hu hi hzv hp hm hcs h63 hbytes ha hC
    obtain ⟨a', cap, rfl, _⟩ := St.rowM_shape hst .head
    unfold Oper.wp
    rw [hrun]
    exact ⟨_, _, hst, (fun h => by rw [hwk] at h; cases h), by rw [hdst]; exact ha.put hd _, h a' cap⟩)
end
/-- A list that is kept: where it lies, its mark, how many it holds. -/
structure KtM where
  sl : SlV
  mark : Int
  n : Nat
def ktE : Elem KtM where
  sz := 3
  pos := by decide
  enc t := [t.sl.v, .int .u8 t.mark, .int .i64 (t.n : Int)]
  len _ := rfl
  one q v hv := by
    simp at hv
    rcases hv with rfl | rfl | rfl <;> rfl
def kH (ents : List KtM) : List (Value × List Int) := ents.map fun q => (q.sl.v, List.replicate q.n q.mark)
theorem kH_mem {ents : List KtM} {i : Nat} {q : KtM} (h : ents[i]? = some q) : (q.sl.v, List.replicate q.n q.mark) ∈ kH ents :=
  List.mem_map_of_mem (f := fun q : KtM => (q.sl.v, List.replicate q.n q.mark)) (List.mem_iff_getElem?.2 ⟨i, h⟩)
/-- The first i of a list overwritten. -/
def fillF (f : Nat → Int) (xs : List Int) (i : Nat) : List Int := Seq f i ++ xs.drop i
theorem fillF_len {f : Nat → Int} {xs : List Int} {i : Nat} (h : i ≤ xs.length) : (fillF f xs i).length = xs.length := by
  unfold fillF
  rw [List.length_append, Seq.len, List.length_drop]
  omega
theorem fillF_get {f : Nat → Int} {xs : List Int} {i : Nat} (h : i < xs.length) : (fillF f xs i)[i]? = some xs[i] := by
  unfold fillF
  rw [List.getElem?_append_right (by rw [Seq.len]; exact Nat.le_refl _), Seq.len, Nat.sub_self, List.getElem?_drop, Nat.add_zero, List.getElem?_eq_getElem h]
theorem fillF_set {f : Nat → Int} {xs : List Int} {i : Nat} (h : i < xs.length) : (fillF f xs i).set i (f i) = fillF f xs (i + 1) := by
  unfold fillF
  rw [List.set_append_right _ _ (by rw [Seq.len]; exact Nat.le_refl _), Seq.len, Nat.sub_self, List.drop_eq_getElem_cons h, List.set_cons_zero, Seq.succ, List.append_assoc]
  rfl
theorem fillF_all {f : Nat → Int} {xs : List Int} {i : Nat} (h : xs.length ≤ i) (h2 : i ≤ xs.length) : fillF f xs i = Seq f xs.length := by
  obtain rfl : i = xs.length := by omega
  unfold fillF
  rw [List.drop_length, List.append_nil]
set_option maxHeartbeats 4000000 in
theorem keep_spec {kv lv : Value} {ents : List KtM} {m : Int} {xs : List Int} (hl : ents.length ≤ 1000000) (hx : xs.length ≤ 140737488355240) :
    Spec Try.prog 47 [kv, lv, .int .u8 m] [RowM ktE 89 kv ents, Holds byteE (kH ents), RowV byteE 5 lv xs] (fun u M => ∃ (a : Option Addr) (cap : Nat) (ents' : List KtM), u = .slice a ents'.length cap ∧ ents'.length = ents.length + 3 ∧ M = [RowM ktE 89 (.slice a ents'.length cap) ents', Holds byteE (kH ents')]) := by
  refine spec_of Try.func47 rfl rfl (Nat.le_of_ble_eq_true rfl) (fun w F => ?_)
  (refine hc_seq ?_; refine hc_lex ?_; refine hx_plain rfl ?_; refine h_assign rfl rfl rfl rfl ?_; refine hx_nil ?_; refine hq_then ?_; refine hc_seq ?_; refine hc_lex ?_; refine hx_plain rfl ?_; refine h_move rfl rfl rfl rfl ?_; refine hx_plain rfl ?_)
  refine h_lenV rfl rfl (.tail (.tail .head)) rfl UC.out rfl rfl rfl ?_
  (refine hx_plain rfl ?_; refine h_assign rfl rfl rfl rfl ?_; refine hx_nil ?_; refine hq_then ?_; refine hc_seq ?_; refine hc_seq ?_; refine hc_lex ?_; refine hx_plain rfl ?_; refine h_assign rfl rfl rfl rfl ?_; refine hx_nil ?_; refine hq_then ?_; refine hc_block ?_)
  refine hc_cut (id := 0) (Y := Unit) (fun _ => [(0, kv), (1, lv), (2, .int .u8 m), (7, .int .i64 (xs.length : Int))]) (fun _ => [RowM ktE 89 kv ents, Holds byteE (kH ents), RowV byteE 5 lv (Seq (fun _ => m) xs.length)]) (fun _ => True) ?_ ?_
  · refine hc_loop (X := Nat) (fun i => [(0, kv), (1, lv), (2, .int .u8 m), (7, .int .i64 (xs.length : Int)), (8, .int .i64 (i : Int))]) (fun i => [RowM ktE 89 kv ents, Holds byteE (kH ents), RowV byteE 5 lv (fillF (fun _ => m) xs i)]) (fun i => i ≤ xs.length) (fun i => xs.length - i) 0 (.cons rfl (.cons rfl (.cons rfl (.cons rfl (.cons rfl .nil))))) (Nat.zero_le _) (fun _ h => h) ?_
    intro i hi
    by_cases hlt : i < xs.length
    · refine hc_rowV (.tail (.tail .head)) ?_ ?_
      · intro _ e1
        have := congrArg List.length e1
        rw [fillF_len hi] at this
        have h0 : xs.length = 0 := this
        omega
      · rintro g cap rfl
        rw [fillF_len hi]
        have e1 : (fillF (fun _ => m) xs i)[((i : Nat) : Int).toNat]? = some xs[i] := fillF_get hlt
        (refine hc_seq ?_; refine hc_seq ?_; refine hc_lex ?_; refine hx_plain rfl ?_; refine h_move rfl rfl rfl rfl ?_; refine hx_plain rfl ?_; refine h_move rfl rfl rfl rfl ?_; refine hx_plain rfl ?_; refine h_cmp rfl rfl rfl rfl rfl rfl ?_; refine hx_nil ?_; refine hq_then ?_; refine hc_condDT rfl (by omega) ?_; refine hc_skip ?_; refine hq_then ?_; refine hc_seq ?_; refine hc_block ?_; refine hc_lex ?_; refine hx_plain rfl ?_; refine h_move rfl rfl rfl rfl ?_; refine hx_plain rfl ?_; refine h_move rfl rfl rfl rfl ?_; refine hx_plain rfl ?_; refine h_move rfl rfl rfl rfl ?_; refine hx_plain rfl ?_; refine h_rowAddr rfl rfl rfl UC.out IC.size (by omega) (by omega) rfl rfl ?_; refine hx_plain rfl ?_)
        refine h_rowStoreN (z := m) rfl rfl rfl .head rfl rfl rfl IC.size e1 rfl rfl ?_
        (refine hx_nil ?_; refine hq_norm_block ?_; refine hq_then ?_; refine hc_lex ?_; refine hx_plain rfl ?_; refine h_move rfl rfl rfl rfl ?_; refine hx_plain rfl ?_; refine h_arithI rfl rfl rfl rfl (by omega) rfl rfl ?_; refine hx_plain rfl ?_; refine h_assign rfl rfl rfl rfl ?_; refine hx_nil ?_)
        refine hq_round (i + 1) (by omega) (by omega) (.cons rfl (.cons rfl (.cons rfl (.cons rfl (.cons rfl .nil))))) (fun _ h => ?_)
        have h2 : fillF (fun _ => m) xs (i + 1) = (fillF (fun _ => m) xs i).set i m := (fillF_set (f := fun _ => m) hlt).symm
        rw [h2]
        have h3 := (show St _ _ (Row byteE 5 g cap ((fillF (fun _ => m) xs i).set i m) :: _) _ from h).rowV_mk
        rw [List.length_set, fillF_len hi] at h3
        exact h3.sub (.cons (.tail .head) (.cons (.tail .head) (.cons .head .nil)))
    · rw [fillF_all (by omega) hi]
      (refine hc_seq ?_; refine hc_seq ?_; refine hc_lex ?_; refine hx_plain rfl ?_; refine h_move rfl rfl rfl rfl ?_; refine hx_plain rfl ?_; refine h_move rfl rfl rfl rfl ?_; refine hx_plain rfl ?_; refine h_cmp rfl rfl rfl rfl rfl rfl ?_; refine hx_nil ?_; refine hq_then ?_; refine hc_condDF rfl (by omega) ?_; refine hc_exit ?_; refine hq_exit_then ?_; refine hq_exit_then ?_)
      exact hq_cut () trivial (.cons rfl (.cons rfl (.cons rfl (.cons rfl .nil)))) (fun _ h => h)
  · rintro ⟨⟩ _
    (refine hq_exit_block ?_; refine hq_then ?_; refine hc_seq ?_; refine hc_lex ?_; refine hx_plain rfl ?_; refine h_move rfl rfl rfl rfl ?_; refine hx_plain rfl ?_; refine h_move rfl rfl rfl rfl ?_; refine hx_plain rfl ?_; (refine h_buildSlice rfl rfl rfl UC.out IC.size IC.zero rfl rfl (by intro v hv; simp at hv; first | (subst hv; rfl) | (rcases hv with rfl | rfl <;> rfl) | (rcases hv with rfl | rfl | rfl <;> rfl)) (by omega) rfl rfl (fun _ => ?_)); refine hx_plain rfl ?_)
    rename_i b
    refine hx1_conv rfl rfl (C' := St w F [Pool byteE 5 (fun _ => m) [(lv, xs.length)], Blk b (.cells #[.int .u8 m] 5 (0, 0)), RowM ktE 89 kv ents, Holds byteE (kH ents)]) (fun _ h => ?_) ?_
    · exact St.pool (h.sub (.cons (.tail (.tail (.tail .head))) (.cons .head (.cons .head (.cons .head .nil)))))
    refine h_poolAppend (E := byteE) (T := 5) (f := fun _ => m) (l := xs.length) (m := 1) rfl rfl rfl rfl rfl UC.out IC.out rfl (.cons .head (.cons .head .nil)) (.head _) rfl (pool_const byteE m 1) (by unfold maxLen; omega) (by omega) rfl rfl (fun v1 => ?_)
    (refine hx_plain rfl ?_; refine h_assign rfl rfl rfl rfl ?_; refine hx_nil ?_; refine hq_then ?_; refine hc_seq ?_; refine hc_lex ?_; refine hx_plain rfl ?_; refine h_move rfl rfl rfl rfl ?_; refine hx_plain rfl ?_; refine h_assign rfl rfl rfl rfl ?_; refine hx_nil ?_; refine hq_then ?_; refine hc_seq ?_; refine hc_seq ?_; refine hc_lex ?_; refine hx_plain rfl ?_; refine h_assign rfl rfl rfl rfl ?_; refine hx_nil ?_; refine hq_then ?_; refine hc_block ?_)
    refine hc_cut (id := 2) (Y := Value) (fun v2 => [(0, kv), (1, lv), (2, .int .u8 m), (7, .int .i64 (xs.length : Int)), (9, v1), (10, v2)]) (fun v2 => [Pool byteE 5 (fun _ => m) [(lv, xs.length), (v1, xs.length + 1), (v2, xs.length + 80)], RowM ktE 89 kv ents, Holds byteE (kH ents)]) (fun _ => True) ?_ ?_
    · refine hc_loop (X := Nat × Value) (fun x => [(0, kv), (1, lv), (2, .int .u8 m), (7, .int .i64 (xs.length : Int)), (9, v1), (10, x.2), (11, .int .i64 (x.1 : Int))]) (fun x => [Pool byteE 5 (fun _ => m) [(lv, xs.length), (v1, xs.length + 1), (x.2, xs.length + x.1)], RowM ktE 89 kv ents, Holds byteE (kH ents)]) (fun x => x.1 ≤ 80) (fun x => 80 - x.1) (0, lv) (.cons rfl (.cons rfl (.cons rfl (.cons rfl (.cons rfl (.cons rfl (.cons rfl .nil))))))) (Nat.zero_le _) (fun w' h => ?_) ?_
      · refine St.pool_sub (ents := [(lv, xs.length)] ++ [(v1, xs.length + 1)]) ?_ (h.sub (.cons .head (.cons (.tail .head) (.cons (.tail .head) .nil))))
        intro q hq
        simp at hq ⊢
        rcases hq with rfl | rfl | rfl
        · exact .inl rfl
        · exact .inr rfl
        · exact .inl rfl
      rintro ⟨i, v2⟩ hi
      dsimp only at hi ⊢
      by_cases hlt : i < 80
      · (refine hc_seq ?_; refine hc_seq ?_; refine hc_lex ?_; refine hx_plain rfl ?_; refine h_move rfl rfl rfl rfl ?_; refine hx_plain rfl ?_; refine h_cmp rfl rfl rfl rfl rfl rfl ?_; refine hx_nil ?_; refine hq_then ?_; refine hc_condDT rfl (by omega) ?_; refine hc_skip ?_; refine hq_then ?_; refine hc_seq ?_; refine hc_block ?_; refine hc_lex ?_; refine hx_plain rfl ?_; refine h_move rfl rfl rfl rfl ?_; refine hx_plain rfl ?_; refine h_move rfl rfl rfl rfl ?_; refine hx_plain rfl ?_; (refine h_buildSlice rfl rfl rfl UC.out IC.size IC.zero rfl rfl (by intro v hv; simp at hv; first | (subst hv; rfl) | (rcases hv with rfl | rfl <;> rfl) | (rcases hv with rfl | rfl | rfl <;> rfl)) (by omega) rfl rfl (fun _ => ?_)); refine hx_plain rfl ?_)
        refine h_poolAppend (E := byteE) (T := 5) (f := fun _ => m) (l := xs.length + i) (m := 1) rfl rfl rfl rfl rfl UC.out IC.out rfl (.cons (.tail .head) (.cons .head .nil)) (.tail _ (.tail _ (.head _))) rfl (pool_const byteE m 1) (by unfold maxLen; omega) (by omega) rfl rfl (fun v3 => ?_)
        (refine hx_plain rfl ?_; refine h_assign rfl rfl rfl rfl ?_; refine hx_nil ?_; refine hq_norm_block ?_; refine hq_then ?_; refine hc_lex ?_; refine hx_plain rfl ?_; refine h_move rfl rfl rfl rfl ?_; refine hx_plain rfl ?_; refine h_arithI rfl rfl rfl rfl (by omega) rfl rfl ?_; refine hx_plain rfl ?_; refine h_assign rfl rfl rfl rfl ?_; refine hx_nil ?_)
        refine hq_round (i + 1, v3) (by show 80 - (i + 1) < 80 - i; omega) (by show i + 1 ≤ 80; omega) (.cons rfl (.cons rfl (.cons rfl (.cons rfl (.cons rfl (.cons rfl (.cons rfl .nil))))))) (fun _ h => ?_)
        refine St.pool_sub (ents := [(lv, xs.length), (v1, xs.length + 1), (v2, xs.length + i)] ++ [(v3, xs.length + i + 1)]) ?_ (h.sub (.cons .head (.cons (.tail .head) (.cons (.tail .head) .nil))))
        intro q hq
        simp at hq ⊢
        rcases hq with rfl | rfl | rfl
        · exact .inl rfl
        · exact .inr (.inl rfl)
        · exact .inr (.inr (.inr rfl))
      · obtain rfl : i = 80 := by omega
        (refine hc_seq ?_; refine hc_seq ?_; refine hc_lex ?_; refine hx_plain rfl ?_; refine h_move rfl rfl rfl rfl ?_; refine hx_plain rfl ?_; refine h_cmp rfl rfl rfl rfl rfl rfl ?_; refine hx_nil ?_; refine hq_then ?_; refine hc_condF rfl ?_; refine hc_exit ?_; refine hq_exit_then ?_; refine hq_exit_then ?_)
        exact hq_cut v2 trivial (.cons rfl (.cons rfl (.cons rfl (.cons rfl (.cons rfl (.cons rfl .nil)))))) (fun _ h => h)
    · rintro v2 _
      refine hq_st (C' := St w F [Holds byteE [(lv, List.replicate xs.length m), (v1, List.replicate (xs.length + 1) m), (v2, List.replicate (xs.length + 80) m)], RowM ktE 89 kv ents, Holds byteE (kH ents)]) (fun _ h => ?_) ?_
      · have h2 := h.pool_holds
        simp only [List.map_cons, List.map_nil, Seq.const] at h2
        exact h2
      refine hq_know (fun _ h => And.intro (h.hold_shape (v := lv) (xs := List.replicate xs.length m) .head (.head _)) (And.intro (h.hold_shape (v := v1) (xs := List.replicate (xs.length + 1) m) .head (.tail _ (.head _))) (h.hold_shape (v := v2) (xs := List.replicate (xs.length + 80) m) .head (.tail _ (.tail _ (.head _)))))) ?_
      simp only [List.length_replicate]
      rintro ⟨⟨a, c, rfl, _⟩, ⟨a1, c1, rfl, _⟩, ⟨a2, c2, rfl, _⟩⟩
      (refine hq_exit_block ?_; refine hq_then ?_; refine hc_seq ?_; refine hc_lex ?_; refine hx_plain rfl ?_; refine h_move rfl rfl rfl rfl ?_; refine hx_plain rfl ?_; refine h_move rfl rfl rfl rfl ?_; refine hx_plain rfl ?_; refine h_move rfl rfl rfl rfl ?_; refine hx_plain rfl ?_; refine h_move rfl rfl rfl rfl ?_; refine hx_plain rfl ?_; refine h_build rfl inferInstance rfl rfl rfl rfl ?_; refine hx_plain rfl ?_; (refine h_buildSlice rfl rfl rfl UC.out IC.size IC.zero rfl rfl (by intro v hv; simp at hv; first | (subst hv; rfl) | (rcases hv with rfl | rfl <;> rfl) | (rcases hv with rfl | rfl | rfl <;> rfl)) (by omega) rfl rfl (fun _ => ?_)); refine hx_plain rfl ?_)
      refine h_appendM (m := 1) (E := ktE) (T := 89) (xs := ents) (ys := [⟨⟨a, xs.length, c⟩, m, xs.length⟩]) rfl rfl rfl rfl rfl UC.out IC.out rfl (.cons (.tail (.tail .head)) (.cons .head .nil)) rfl (one_row ktE _) (by unfold maxLen; omega) (by omega) rfl rfl (fun b1 d1 => ?_)
      (refine hx_plain rfl ?_; refine h_assign rfl rfl rfl rfl ?_; refine hx_nil ?_; refine hq_then ?_; refine hc_seq ?_; refine hc_lex ?_; refine hx_plain rfl ?_; refine h_move rfl rfl rfl rfl ?_; refine hx_plain rfl ?_; refine h_move rfl rfl rfl rfl ?_; refine hx_plain rfl ?_; refine h_move rfl rfl rfl rfl ?_; refine hx_plain rfl ?_; refine h_move rfl rfl rfl rfl ?_; refine hx_plain rfl ?_; refine h_arithI rfl rfl rfl rfl (by omega) rfl rfl ?_; refine hx_plain rfl ?_; refine h_build rfl inferInstance rfl rfl rfl rfl ?_; refine hx_plain rfl ?_; (refine h_buildSlice rfl rfl rfl UC.out IC.size IC.zero rfl rfl (by intro v hv; simp at hv; first | (subst hv; rfl) | (rcases hv with rfl | rfl <;> rfl) | (rcases hv with rfl | rfl | rfl <;> rfl)) (by omega) rfl rfl (fun _ => ?_)); refine hx_plain rfl ?_)
      refine h_appendM (m := 1) (E := ktE) (T := 89) (xs := ents ++ [⟨⟨a, xs.length, c⟩, m, xs.length⟩]) (ys := [⟨⟨a1, xs.length + 1, c1⟩, m, xs.length + 1⟩]) rfl rfl rfl rfl rfl UC.out IC.out rfl (.cons (.tail .head) (.cons .head .nil)) rfl (one_row ktE _) (by unfold maxLen; simp; omega) (by simp; omega) rfl rfl (fun b2 d2 => ?_)
      (refine hx_plain rfl ?_; refine h_assign rfl rfl rfl rfl ?_; refine hx_nil ?_; refine hq_then ?_; refine hc_seq ?_; refine hc_lex ?_; refine hx_plain rfl ?_; refine h_move rfl rfl rfl rfl ?_; refine hx_plain rfl ?_; refine h_move rfl rfl rfl rfl ?_; refine hx_plain rfl ?_; refine h_move rfl rfl rfl rfl ?_; refine hx_plain rfl ?_; refine h_move rfl rfl rfl rfl ?_; refine hx_plain rfl ?_; refine h_arithI rfl rfl rfl rfl (by omega) rfl rfl ?_; refine hx_plain rfl ?_; refine h_build rfl inferInstance rfl rfl rfl rfl ?_; refine hx_plain rfl ?_; (refine h_buildSlice rfl rfl rfl UC.out IC.size IC.zero rfl rfl (by intro v hv; simp at hv; first | (subst hv; rfl) | (rcases hv with rfl | rfl <;> rfl) | (rcases hv with rfl | rfl | rfl <;> rfl)) (by omega) rfl rfl (fun _ => ?_)); refine hx_plain rfl ?_)
      refine h_appendM (m := 1) (E := ktE) (T := 89) (xs := ents ++ [⟨⟨a, xs.length, c⟩, m, xs.length⟩] ++ [⟨⟨a1, xs.length + 1, c1⟩, m, xs.length + 1⟩]) (ys := [⟨⟨a2, xs.length + 80, c2⟩, m, xs.length + 80⟩]) rfl rfl rfl rfl rfl UC.out IC.out rfl (.cons (.tail .head) (.cons .head .nil)) rfl (one_row ktE _) (by unfold maxLen; simp; omega) (by simp; omega) rfl rfl (fun b3 d3 => ?_)
      (refine hx_plain rfl ?_; refine h_assign rfl rfl rfl rfl ?_; refine hx_nil ?_; refine hq_then ?_; refine hc_ret ?_)
      refine hq_ret1 (.inr rfl) rfl rfl ⟨b3, d3, ents ++ [⟨⟨a, xs.length, c⟩, m, xs.length⟩] ++ [⟨⟨a1, xs.length + 1, c1⟩, m, xs.length + 1⟩] ++ [⟨⟨a2, xs.length + 80, c2⟩, m, xs.length + 80⟩], rfl, by simp, rfl⟩ (fun _ h => ?_)
      have h1 := (h.sub (.cons (.tail (.tail (.tail (.tail (.tail .head))))) (.cons (.tail (.tail (.tail (.tail .head)))) (.cons .head .nil)))).holds_join
      rw [show kH (ents ++ [⟨⟨a, xs.length, c⟩, m, xs.length⟩] ++ [⟨⟨a1, xs.length + 1, c1⟩, m, xs.length + 1⟩] ++ [⟨⟨a2, xs.length + 80, c2⟩, m, xs.length + 80⟩]) = kH ents ++ [(.slice a xs.length c, List.replicate xs.length m), (.slice a1 (xs.length + 1) c1, List.replicate (xs.length + 1) m), (.slice a2 (xs.length + 80) c2, List.replicate (xs.length + 80) m)] by simp [kH, SlV.v]]
      exact h1.perm (List.Perm.swap _ _ _)
theorem mark_spec {p : Nat} {c0 c1 c2 c3 c4 c6 : Value} {st i : Int} (hst : 0 ≤ st ∧ st ≤ 1000000000000000) (hi : 0 ≤ i ∧ i ≤ 1000) :
    Spec Try.prog 48 [.pointer (some ⟨p, 0, none⟩), .int .i64 i] [Blk p (.cells #[c0, c1, c2, c3, c4, .int .i64 st, c6] 60 (0, 0))] (fun u M => ∃ m : Int, u = .int .u8 m ∧ M = [Blk p (.cells #[c0, c1, c2, c3, c4, .int .i64 st, c6] 60 (0, 0))]) := by
  refine spec_of Try.func48 rfl rfl (Nat.le_of_ble_eq_true rfl) (fun w F => ?_)
  (refine hc_seq ?_; refine hc_lex ?_; refine hx_plain rfl ?_; refine h_assign rfl rfl rfl rfl ?_; refine hx_nil ?_; refine hq_then ?_; refine hc_seq ?_; refine hc_lex ?_; refine hx_plain rfl ?_; refine h_move rfl rfl rfl rfl ?_; refine hx_plain rfl ?_; refine h_nilCheck rfl rfl rfl rfl ?_; refine hx_plain rfl ?_; refine h_fieldAddr0 rfl rfl FC.out rfl rfl ?_; refine hx_plain rfl ?_; refine h_load rfl rfl UC.out rfl .head rfl rfl rfl ?_; refine hx_plain rfl ?_; refine h_arithI rfl rfl rfl rfl (by omega) rfl rfl ?_; refine hx_plain rfl ?_; refine h_move rfl rfl rfl rfl ?_; refine hx_plain rfl ?_; refine h_arithI rfl rfl rfl rfl (by omega) rfl rfl ?_; refine hx_plain rfl ?_; refine h_remI rfl rfl rfl (by omega) rfl rfl ?_; refine hx_plain rfl ?_; refine h_arithI rfl rfl rfl rfl (by omega) rfl rfl ?_; refine hx_plain rfl ?_; refine h_convInt rfl rfl UC.out UC.out rfl rfl ?_; refine hx_plain rfl ?_; refine h_assign rfl rfl rfl rfl ?_; refine hx_nil ?_; refine hq_then ?_; refine hc_ret ?_)
  exact hq_ret1 (.inr rfl) rfl rfl ⟨_, rfl, rfl⟩ (fun _ h => h)
/-- The data with room to spare, and what was put there. -/
theorem roomy_makes {bs : List Int} {w : World} {v : Value} (h1 : Rd byteE w v bs) (hl : bs.length ≤ 140737488355200) :
    Makes Try.prog 46 [v] w (fun u M => M = [RowV byteE 5 u (bs ++ [201, 202, 203])]) := by
  refine makes_of Try.func46 rfl rfl (Nat.le_of_ble_eq_true rfl) ?_
  (refine hc_seq ?_; refine hc_lex ?_; refine hx_plain rfl ?_; refine h_assign rfl rfl rfl rfl ?_; refine hx_nil ?_; refine hq_then ?_; refine hc_seq ?_; refine hc_lex ?_; refine hx_plain rfl ?_; refine h_move rfl rfl rfl rfl ?_; refine hx_plain rfl ?_)
  refine h_callW (post := fun u M => M = [RowV byteE 5 u bs]) rfl rfl rfl rfl rfl rfl rfl rfl EC.out (fun w' h => bytes_makes (h.rd h1) hl) ?_
  rintro u M rfl
  (refine hx_plain rfl ?_; refine h_assign rfl rfl rfl rfl ?_; refine hx_nil ?_; refine hq_then ?_; refine hc_seq ?_; refine hc_lex ?_; refine hx_plain rfl ?_; refine h_move rfl rfl rfl rfl ?_; refine hx_plain rfl ?_; (refine h_buildSlice rfl rfl rfl UC.out IC.size IC.zero rfl rfl (by intro v hv; simp at hv; first | (subst hv; rfl) | (rcases hv with rfl | rfl <;> rfl) | (rcases hv with rfl | rfl | rfl <;> rfl)) (by omega) rfl rfl (fun _ => ?_)); refine hx_plain rfl ?_)
  refine h_append (m := 3) (E := byteE) (T := 5) (xs := bs) (ys := [201, 202, 203]) rfl rfl rfl rfl rfl UC.out IC.out rfl (.cons (.tail .head) (.cons .head .nil)) rfl (flat_row byteE _) (by unfold maxLen; omega) (by omega) rfl rfl (fun v' _ => ?_)
  (refine hx_plain rfl ?_; refine h_assign rfl rfl rfl rfl ?_; refine hx_nil ?_; refine hq_then ?_; refine hc_ret ?_)
  exact hq_ret1 (.inr rfl) rfl rfl rfl (fun _ h => h.sub (.cons .head .nil))
end Go.Proofs.Ytbfmmgbfliebhaa
