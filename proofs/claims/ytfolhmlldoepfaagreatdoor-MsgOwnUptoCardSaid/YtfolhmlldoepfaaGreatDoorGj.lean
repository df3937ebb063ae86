import Derived.Test.YtfolhmlldoepfaaGreatDoorGh
import Derived.Test.YtfolhmlldoepfaaGreatDoorGc
import Derived.Test.YtfolhmlldoepfaaGreatDoorGf
namespace Go.Proofs.YtfolhmlldoepfaaGreatDoor
open Go Go.Proofs Go.RowKit
set_option maxRecDepth 4000
def intE : Elem Int where
  sz := 1
  pos := by decide
  enc x := [.int .i64 x]
  len _ := rfl
  one x v hv := by
    simp at hv
    subst hv
    rfl
def mkF (i j : Nat) : Int := IntKind.u8.wrap ((i : Int) * 167 + (i : Int) / 256 * 91 + (j : Int) * 29)
theorem mark_spec (i j : Nat) (hi : i ≤ 35184372088832) (hj : j ≤ 35184372088832) : Spec0 Tryz.prog 68 [.int .i64 (i : Int), .int .i64 (j : Int)] (.int .u8 (mkF i j)) := by
  refine spec_of Tryz.func68 rfl rfl (Nat.le_of_ble_eq_true rfl) (fun w F => ?_)
  (refine Zx rfl rfl rfl rfl rfl ?_; refine Zw rfl rfl rfl rfl rfl ?_; refine hx_plain rfl ?_; refine h_arithI rfl rfl rfl rfl (by omega) rfl rfl ?_; refine Zm rfl rfl rfl rfl rfl ?_; refine hx_plain rfl ?_; refine h_quoI rfl rfl rfl (by omega) rfl rfl ?_; (iterate 2 (refine hx_plain rfl ?_; refine h_arithI rfl rfl rfl rfl (by omega) rfl rfl ?_)); refine Zm rfl rfl rfl rfl rfl ?_; (iterate 2 (refine hx_plain rfl ?_; refine h_arithI rfl rfl rfl rfl (by omega) rfl rfl ?_)); refine hx_plain rfl ?_; refine h_convInt rfl rfl UC.out UC.out rfl rfl ?_; refine Zn rfl rfl rfl rfl rfl ?_; refine hc_ret ?_)
  exact hq_ret1 (.inr rfl) rfl rfl ⟨rfl, rfl⟩ (fun _ h => h.emp)
/-- The first i of a list overwritten. -/
def fillF (f : Nat → Int) (xs : List Int) (i : Nat) : List Int := Seq f i ++ xs.drop i
theorem fillF_len {f : Nat → Int} {xs : List Int} {i : Nat} (h : i ≤ xs.length) : (fillF f xs i).length = xs.length := by
  unfold fillF
  rw [List.length_append, Seq.len, List.length_drop]
  omega
theorem fillF_get {f : Nat → Int} {xs : List Int} {i : Nat} (h : i < xs.length) : (fillF f xs i)[i]? = some xs[i] := by
  unfold fillF
  rw [List.getElem?_append_right (by rw [Seq.len]; exact Nat.le_refl _), Seq.len, Nat.sub_self, List.getElem?_drop, Nat.add_zero, List.getElem?_eq_getElem h]
theorem fillF_set {f : Nat → Int} {xs : List Int} {i : Nat} (h : i < xs.length) : (fillF f xs i).set i (f i) = fillF f xs (i + 1) := by
  unfold fillF
  rw [List.set_append_right _ _ (by rw [Seq.len]; exact Nat.le_refl _), Seq.len, Nat.sub_self, List.drop_eq_getElem_cons h, List.set_cons_zero, Seq.succ, List.append_assoc]
  rfl
theorem fillF_all {f : Nat → Int} {xs : List Int} {i : Nat} (h : xs.length ≤ i) (h2 : i ≤ xs.length) : fillF f xs i = Seq f xs.length := by
  obtain rfl : i = xs.length := by omega
  unfold fillF
  rw [List.drop_length, List.append_nil]
theorem pool_one (f : Nat → Int) (l : Nat) : ∀ i, i < 1 → ∀ j u, (byteE.enc (f (l + i)))[j]? = some u → (#[Value.int .u8 (f l)] : Array Value)[i * byteE.sz + j]? = some u := by
  intro i hi j u h
  obtain rfl : i = 0 := by omega
  match j, h with
  | 0, h => exact h
  | j + 1, h => cases h
theorem pool_two (f : Nat → Int) (l : Nat) : ∀ i, i < 2 → ∀ j u, (byteE.enc (f (l + i)))[j]? = some u → (#[Value.int .u8 (f l), Value.int .u8 (f (l + 1))] : Array Value)[i * byteE.sz + j]? = some u := by
  intro i hi j u h
  match i, hi, j, h with
  | 0, _, 0, h => exact h
  | 0, _, j + 1, h => cases h
  | 1, _, 0, h => exact h
  | 1, _, j + 1, h => cases h
/-- The book's lists, with what they hold. -/
def bkH (ents : List (SlV × Nat)) : List (Value × List Int) := ents.zipIdx.map fun q => (q.1.1.v, Seq (mkF (q.2 / 3)) q.1.2)
def BkO (p : Nat) (v3 : Value) (ents : List (SlV × Nat)) : Asn := Ex fun v : Value × Value => All [Blk p (.cells #[v.1, v.2, v3] 67 (0, 0)), RowV slE 22 v.1 (ents.map (·.1)), RowV intE 3 v.2 (ents.map fun q => (q.2 : Int)), Holds byteE (bkH ents)]
theorem BkO_open {p : Nat} {v3 : Value} {ents : List (SlV × Nat)} (w w0 : World) (F0 : Nat → Prop) (R : List Asn) (h : St w0 F0 (BkO p v3 ents :: R) w) : ∃ v : Value × Value, St w0 F0 ([Blk p (.cells #[v.1, v.2, v3] 67 (0, 0)), RowV slE 22 v.1 (ents.map (·.1)), RowV intE 3 v.2 (ents.map fun q => (q.2 : Int)), Holds byteE (bkH ents)] ++ R) w := by
  obtain ⟨x, hx⟩ := St.ex.1 h
  exact ⟨x, St.all.1 hx⟩
theorem BkO_shut {p : Nat} {v3 : Value} {ents : List (SlV × Nat)} {v1 v2 : Value} {w w0 : World} {F0 : Nat → Prop} {R : List Asn} (h : St w0 F0 ([Blk p (.cells #[v1, v2, v3] 67 (0, 0)), RowV slE 22 v1 (ents.map (·.1)), RowV intE 3 v2 (ents.map fun q => (q.2 : Int)), Holds byteE (bkH ents)] ++ R) w) : St w0 F0 (BkO p v3 ents :: R) w :=
  St.ex.2 ⟨(v1, v2), St.all.2 h⟩
theorem BkO_new {p : Nat} {v3 : Value} {w w0 : World} {F0 : Nat → Prop} {R : List Asn} (h : St w0 F0 (Blk p (.cells #[.slice none 0 0, .slice none 0 0, v3] 67 (0, 0)) :: R) w) : St w0 F0 (BkO p v3 [] :: R) w := by
  have h1 : St w0 F0 (Holds byteE [] :: RowV intE 3 (.slice none 0 0) [] :: RowV slE 22 (.slice none 0 0) [] :: Blk p (.cells #[.slice none 0 0, .slice none 0 0, v3] 67 (0, 0)) :: R) w := (St.rowV_nil (St.rowV_nil h)).holds_nil
  exact BkO_shut (h1.pulls (.cons (.tail (.tail (.tail .head))) (.cons (.tail (.tail .head)) (.cons (.tail .head) (.cons .head .nil)))))
theorem bkH_add (ents : List (SlV × Nat)) (a b c : SlV × Nat) (h3 : ents.length % 3 = 0) : bkH (ents ++ [a, b, c]) = bkH ents ++ [(a.1.v, Seq (mkF (ents.length / 3)) a.2), (b.1.v, Seq (mkF (ents.length / 3)) b.2), (c.1.v, Seq (mkF (ents.length / 3)) c.2)] := by
  have e1 : (ents.length + 1) / 3 = ents.length / 3 := by omega
  have e2 : (ents.length + 2) / 3 = ents.length / 3 := by omega
  simp [bkH, List.zipIdx_append, e1, e2]
def BkW (ents : List (SlV × Nat)) : Prop := ents.length % 3 = 0 ∧ ∀ q ∈ ents, q.2 ≤ 1099511627776
set_option maxHeartbeats 8000000 in
theorem keep_spec (p : Nat) (v3 : Value) (ents : List (SlV × Nat)) (v : Value) (xs : List Int) (h3 : BkW ents) (hl : ents.length ≤ 1099511627776) (hx : xs.length ≤ 1099511627600) :
    Spec Tryz.prog 66 [.pointer (some ⟨p, 0, none⟩), v] [BkO p v3 ents, RowV byteE 5 v xs] (fun u M => u = .tuple #[] ∧ ∃ ents', ents'.length = ents.length + 3 ∧ BkW ents' ∧ M = [BkO p v3 ents']) := by
  refine spec_of Tryz.func66 rfl rfl (Nat.le_of_ble_eq_true rfl) (fun w F => ?_)
  refine hc_open .head BkO_open ?_
  rintro ⟨vL, vN⟩
  dsimp only
  have hlen : (ents.map (·.1)).length = ents.length := List.length_map _
  have hlen2 : (ents.map (fun q => (q.2 : Int))).length = ents.length := List.length_map _
  (refine Zw rfl rfl rfl rfl rfl ?_; refine hx_plain rfl ?_; refine h_nilCheck rfl rfl rfl rfl ?_; refine Zf rfl rfl rfl rfl rfl ?_; refine Zh rfl rfl rfl rfl rfl rfl rfl ?_; refine hx_plain rfl ?_)
  refine h_lenV rfl rfl (.tail .head) rfl UC.out rfl rfl rfl ?_
  rw [hlen]
  (refine hx_plain rfl ?_; refine h_quoI rfl rfl rfl (by omega) rfl rfl ?_; refine Zn rfl rfl rfl rfl rfl ?_; refine Zw rfl rfl rfl rfl rfl ?_; refine hx_plain rfl ?_)
  rw [show (ents.length : Int) / 3 = ((ents.length / 3 : Nat) : Int) by omega]
  obtain ⟨m, hm⟩ : ∃ m : Nat, m = ents.length / 3 := ⟨_, rfl⟩
  have hm2 : m ≤ 1099511627776 := by omega
  rw [← hm]
  refine h_lenV rfl rfl (.tail (.tail (.tail (.tail .head)))) rfl UC.out rfl rfl rfl ?_
  (refine Zn rfl rfl rfl rfl rfl ?_; refine hc_seq ?_; refine Zx rfl rfl rfl rfl rfl ?_; refine hc_block ?_)
  have n0 : (xs.length : Int) + 1 = ((xs.length + 1 : Nat) : Int) := by omega
  have n2 : (xs.length : Int) + 2 = ((xs.length + 2 : Nat) : Int) := by omega
  refine hc_cut (id := 0) (Y := Unit) (fun _ => [(0, .pointer (some ⟨p, 0, none⟩)), (1, v), (4, .int .i64 (m : Int)), (5, .int .i64 (xs.length : Int))]) (fun _ => [Blk p (.cells #[vL, vN, v3] 67 (0, 0)), RowV slE 22 vL (ents.map (·.1)), RowV intE 3 vN (ents.map fun q => (q.2 : Int)), Holds byteE (bkH ents), RowV byteE 5 v (Seq (mkF m) xs.length)]) (fun _ => True) ?_ ?_
  · refine hc_loop (X := Nat) (fun i => [(0, .pointer (some ⟨p, 0, none⟩)), (1, v), (4, .int .i64 (m : Int)), (5, .int .i64 (xs.length : Int)), (6, .int .i64 (i : Int))]) (fun i => [Blk p (.cells #[vL, vN, v3] 67 (0, 0)), RowV slE 22 vL (ents.map (·.1)), RowV intE 3 vN (ents.map fun q => (q.2 : Int)), Holds byteE (bkH ents), RowV byteE 5 v (fillF (mkF m) xs i)]) (fun i => i ≤ xs.length) (fun i => xs.length - i) 0 (.cons rfl (.cons rfl (.cons rfl (.cons rfl (.cons rfl .nil))))) (Nat.zero_le _) (fun _ h => h) ?_
    intro i hi
    by_cases hlt : i < xs.length
    · refine hc_rowV (.tail (.tail (.tail (.tail .head)))) ?_ ?_
      · intro _ e1
        have := congrArg List.length e1
        rw [fillF_len hi] at this
        have h0 : xs.length = 0 := this
        omega
      · rintro g cap rfl
        rw [fillF_len hi]
        have e1 : (fillF (mkF m) xs i)[i]? = some xs[i] := fillF_get hlt
        (refine hc_seq ?_; refine Zw rfl rfl rfl rfl rfl ?_; refine Zm rfl rfl rfl rfl rfl ?_; refine Zc rfl rfl rfl rfl rfl rfl rfl ?_; refine Zt ?_; refine hc_condDT rfl (by omega) ?_; refine hc_skip ?_; refine hq_then ?_; refine hc_seq ?_; refine hc_block ?_; refine hc_lex ?_; (iterate 4 (refine Zm rfl rfl rfl rfl rfl ?_)); refine hx_plain rfl ?_)
        refine h_callR rfl rfl rfl rfl rfl rfl EC.out ((mark_spec m i (by omega) (by omega)).reads _) ?_
        (refine hx_plain rfl ?_; refine h_rowAddr rfl rfl rfl UC.out IC.size (by omega) (by omega) rfl rfl ?_; refine hx_plain rfl ?_)
        refine h_rowStoreN (i := i) (z := mkF m i) rfl rfl rfl .head rfl rfl rfl IC.size e1 rfl rfl ?_
        (refine hx_nil ?_; refine hq_norm_block ?_; refine hq_then ?_; refine hc_lex ?_; refine Zm rfl rfl rfl rfl rfl ?_; refine hx_plain rfl ?_; refine h_arithI rfl rfl rfl rfl (by omega) rfl rfl ?_; refine Za rfl rfl rfl rfl rfl ?_; refine hx_nil ?_)
        refine hq_round (i + 1) (by omega) (by omega) (.cons rfl (.cons rfl (.cons rfl (.cons rfl (.cons rfl .nil))))) (fun _ h => ?_)
        have h2 : fillF (mkF m) xs (i + 1) = (fillF (mkF m) xs i).set i (mkF m i) := (fillF_set hlt).symm
        rw [h2]
        have h3 := (show St _ _ (Row byteE 5 g cap ((fillF (mkF m) xs i).set i (mkF m i)) :: _) _ from h).rowV_mk
        rw [List.length_set, fillF_len hi] at h3
        exact h3.sub (.cons (.tail .head) (.cons (.tail .head) (.cons (.tail .head) (.cons (.tail .head) (.cons .head .nil)))))
    · rw [fillF_all (by omega) hi]
      (refine hc_seq ?_; refine Zw rfl rfl rfl rfl rfl ?_; refine Zm rfl rfl rfl rfl rfl ?_; refine Zc rfl rfl rfl rfl rfl rfl rfl ?_; refine Zt ?_; refine hc_condDF rfl (by omega) ?_; refine hc_exit ?_; (iterate 2 (refine hq_exit_then ?_)))
      exact hq_cut () trivial (.cons rfl (.cons rfl (.cons rfl (.cons rfl .nil)))) (fun _ h => h)
  · rintro ⟨⟩ _
    (refine hq_exit_block ?_; refine hq_then ?_; refine Zw rfl rfl rfl rfl rfl ?_; (iterate 2 (refine Zm rfl rfl rfl rfl rfl ?_)); refine hx_plain rfl ?_)
    refine h_callR rfl rfl rfl rfl rfl rfl EC.out ((mark_spec m xs.length (by omega) (by omega)).reads _) ?_
    (refine hx_plain rfl ?_; (refine h_buildSlice rfl rfl rfl UC.out IC.size IC.zero rfl rfl (by intro v hv; simp at hv; first | (subst hv; rfl) | (rcases hv with rfl | rfl <;> rfl) | (rcases hv with rfl | rfl | rfl <;> rfl)) (by omega) rfl rfl (fun _ => ?_)); refine hx_plain rfl ?_)
    rename_i b
    refine hx1_conv rfl rfl (C' := St w F [Pool byteE 5 (mkF m) [(v, xs.length)], Blk b (.cells #[.int .u8 (mkF m xs.length)] 5 (0, 0)), Blk p (.cells #[vL, vN, v3] 67 (0, 0)), RowV slE 22 vL (ents.map (·.1)), RowV intE 3 vN (ents.map fun q => (q.2 : Int)), Holds byteE (bkH ents)]) (fun _ h => ?_) ?_
    · exact St.pool (h.sub (.cons (.tail (.tail (.tail (.tail (.tail .head))))) (.cons .head (.cons .head (.cons .head (.cons .head (.cons .head .nil)))))))
    refine h_poolAppend (E := byteE) (T := 5) (f := mkF m) (l := xs.length) (m := 1) rfl rfl rfl rfl rfl UC.out IC.out rfl (.cons .head (.cons .head .nil)) (.head _) rfl (pool_one (mkF m) xs.length) (by unfold maxLen; omega) (by omega) rfl rfl (fun v1 => ?_)
    (refine Zn rfl rfl rfl rfl rfl ?_; refine Zw rfl rfl rfl rfl rfl ?_; (iterate 2 (refine Zm rfl rfl rfl rfl rfl ?_)); refine hx_plain rfl ?_)
    refine h_callR rfl rfl rfl rfl rfl rfl EC.out ((mark_spec m xs.length (by omega) (by omega)).reads _) ?_
    ((iterate 2 (refine Zm rfl rfl rfl rfl rfl ?_)); refine hx_plain rfl ?_; refine h_arithI rfl rfl rfl rfl (by omega) rfl rfl ?_; refine hx_plain rfl ?_)
    rw [n0]
    refine h_callR rfl rfl rfl rfl rfl rfl EC.out ((mark_spec m (xs.length + 1) (by omega) (by omega)).reads _) ?_
    (refine hx_plain rfl ?_; (refine h_buildSlice rfl rfl rfl UC.out IC.size IC.zero rfl rfl (by intro v hv; simp at hv; first | (subst hv; rfl) | (rcases hv with rfl | rfl <;> rfl) | (rcases hv with rfl | rfl | rfl <;> rfl)) (by omega) rfl rfl (fun _ => ?_)); refine hx_plain rfl ?_)
    refine h_poolAppend (E := byteE) (T := 5) (f := mkF m) (l := xs.length) (m := 2) rfl rfl rfl rfl rfl UC.out IC.out rfl (.cons (.tail .head) (.cons .head .nil)) (.head _) rfl (pool_two (mkF m) xs.length) (by unfold maxLen; omega) (by omega) rfl rfl (fun v2 => ?_)
    (refine Zn rfl rfl rfl rfl rfl ?_; refine hc_seq ?_; refine Zw rfl rfl rfl rfl rfl ?_; refine hx_plain rfl ?_; refine h_arithI rfl rfl rfl rfl (by omega) rfl rfl ?_; refine Zn rfl rfl rfl rfl rfl ?_; refine hc_block ?_)
    rw [n2]
    refine hc_cut (id := 2) (Y := Value) (fun v2 => [(0, .pointer (some ⟨p, 0, none⟩)), (1, v), (4, .int .i64 (m : Int)), (5, .int .i64 (xs.length : Int)), (7, v1), (8, v2)]) (fun v2 => [Pool byteE 5 (mkF m) [(v, xs.length), (v1, xs.length + 1), (v2, xs.length + 92)], Blk p (.cells #[vL, vN, v3] 67 (0, 0)), RowV slE 22 vL (ents.map (·.1)), RowV intE 3 vN (ents.map fun q => (q.2 : Int)), Holds byteE (bkH ents)]) (fun _ => True) ?_ ?_
    · refine hc_loop (X := Nat × Value) (fun x => [(0, .pointer (some ⟨p, 0, none⟩)), (1, v), (4, .int .i64 (m : Int)), (5, .int .i64 (xs.length : Int)), (7, v1), (8, x.2), (9, .int .i64 ((xs.length + 2 + x.1 : Nat) : Int))]) (fun x => [Pool byteE 5 (mkF m) [(v, xs.length), (v1, xs.length + 1), (x.2, xs.length + 2 + x.1)], Blk p (.cells #[vL, vN, v3] 67 (0, 0)), RowV slE 22 vL (ents.map (·.1)), RowV intE 3 vN (ents.map fun q => (q.2 : Int)), Holds byteE (bkH ents)]) (fun x => x.1 ≤ 90) (fun x => 90 - x.1) (0, v2) (.cons rfl (.cons rfl (.cons rfl (.cons rfl (.cons rfl (.cons rfl (.cons rfl .nil))))))) (Nat.zero_le _) (fun _ h => h.sub (.cons .head (.cons (.tail (.tail .head)) (.cons (.tail (.tail .head)) (.cons (.tail (.tail .head)) (.cons (.tail (.tail .head)) .nil)))))) ?_
      rintro ⟨i, v2⟩ hi
      dsimp only at hi ⊢
      by_cases hlt : i < 90
      · (refine hc_seq ?_; refine Zw rfl rfl rfl rfl rfl ?_; refine Zm rfl rfl rfl rfl rfl ?_; refine hx_plain rfl ?_; refine h_arithI rfl rfl rfl rfl (by omega) rfl rfl ?_; refine Zc rfl rfl rfl rfl rfl rfl rfl ?_; refine Zt ?_; refine hc_condDT rfl (by omega) ?_; refine hc_skip ?_; refine hq_then ?_; refine hc_seq ?_; refine hc_block ?_; refine hc_lex ?_; (iterate 3 (refine Zm rfl rfl rfl rfl rfl ?_)); refine hx_plain rfl ?_)
        refine h_callR rfl rfl rfl rfl rfl rfl EC.out ((mark_spec m (xs.length + 2 + i) (by omega) (by omega)).reads _) ?_
        (refine hx_plain rfl ?_; (refine h_buildSlice rfl rfl rfl UC.out IC.size IC.zero rfl rfl (by intro v hv; simp at hv; first | (subst hv; rfl) | (rcases hv with rfl | rfl <;> rfl) | (rcases hv with rfl | rfl | rfl <;> rfl)) (by omega) rfl rfl (fun _ => ?_)); refine hx_plain rfl ?_)
        refine h_poolAppend (E := byteE) (T := 5) (f := mkF m) (l := xs.length + 2 + i) (m := 1) rfl rfl rfl rfl rfl UC.out IC.out rfl (.cons (.tail .head) (.cons .head .nil)) (.tail _ (.tail _ (.head _))) rfl (pool_one (mkF m) (xs.length + 2 + i)) (by unfold maxLen; omega) (by omega) rfl rfl (fun v3 => ?_)
        (refine Za rfl rfl rfl rfl rfl ?_; refine hx_nil ?_; refine hq_norm_block ?_; refine hq_then ?_; refine hc_lex ?_; refine Zm rfl rfl rfl rfl rfl ?_; refine hx_plain rfl ?_; refine h_arithI rfl rfl rfl rfl (by omega) rfl rfl ?_; refine Za rfl rfl rfl rfl rfl ?_; refine hx_nil ?_)
        rw [show ((xs.length + 2 + i : Nat) : Int) + 1 = ((xs.length + 2 + (i + 1) : Nat) : Int) by omega]
        refine hq_round (i + 1, v3) (by show 90 - (i + 1) < 90 - i; omega) (by show i + 1 ≤ 90; omega) (.cons rfl (.cons rfl (.cons rfl (.cons rfl (.cons rfl (.cons rfl (.cons rfl .nil))))))) (fun _ h => ?_)
        refine St.pool_sub (ents := [(v, xs.length), (v1, xs.length + 1), (v2, xs.length + 2 + i)] ++ [(v3, xs.length + 2 + i + 1)]) ?_ (h.sub (.cons .head (.cons (.tail .head) (.cons (.tail .head) (.cons (.tail .head) (.cons (.tail .head) .nil))))))
        intro q hq
        simp at hq ⊢
        rcases hq with rfl | rfl | rfl
        · exact .inl rfl
        · exact .inr (.inl rfl)
        · exact .inr (.inr (.inr rfl))
      · obtain rfl : i = 90 := by omega
        (refine hc_seq ?_; refine Zw rfl rfl rfl rfl rfl ?_; refine Zm rfl rfl rfl rfl rfl ?_; refine hx_plain rfl ?_; refine h_arithI rfl rfl rfl rfl (by omega) rfl rfl ?_; refine Zc rfl rfl rfl rfl rfl rfl rfl ?_; refine Zt ?_; refine hc_condDF rfl (by omega) ?_; refine hc_exit ?_; (iterate 2 (refine hq_exit_then ?_)))
        exact hq_cut v2 trivial (.cons rfl (.cons rfl (.cons rfl (.cons rfl (.cons rfl (.cons rfl .nil)))))) (fun _ h => h)
    · rintro v2 _
      refine hq_st (C' := St w F [Holds byteE [(v, Seq (mkF m) xs.length), (v1, Seq (mkF m) (xs.length + 1)), (v2, Seq (mkF m) (xs.length + 92))], Blk p (.cells #[vL, vN, v3] 67 (0, 0)), RowV slE 22 vL (ents.map (·.1)), RowV intE 3 vN (ents.map fun q => (q.2 : Int)), Holds byteE (bkH ents)]) (fun _ h => by have h2 := h.pool_holds; simp only [List.map_cons, List.map_nil] at h2; exact h2) ?_
      refine hq_know (fun _ h => And.intro (h.hold_shape (v := v) (xs := Seq (mkF m) xs.length) .head (.head _)) (And.intro (h.hold_shape (v := v1) (xs := Seq (mkF m) (xs.length + 1)) .head (.tail _ (.head _))) (h.hold_shape (v := v2) (xs := Seq (mkF m) (xs.length + 92)) .head (.tail _ (.tail _ (.head _)))))) ?_
      simp only [Seq.len]
      rintro ⟨⟨a, c, rfl, _⟩, ⟨a1, c1, rfl, _⟩, ⟨a2, c2, rfl, _⟩⟩
      (refine hq_exit_block ?_; refine hq_then ?_; refine Zw rfl rfl rfl rfl rfl ?_; refine Zm rfl rfl rfl rfl rfl ?_; refine hx_plain rfl ?_; refine h_nilCheck rfl rfl rfl rfl ?_; refine Zf rfl rfl rfl rfl rfl ?_; refine hx_plain rfl ?_; refine h_load rfl rfl UC.out rfl (.tail .head) rfl rfl rfl ?_; (iterate 3 (refine Zm rfl rfl rfl rfl rfl ?_)); refine hx_plain rfl ?_; (refine h_buildSlice rfl rfl rfl UC.out IC.size IC.zero rfl rfl (by intro v hv; simp at hv; first | (subst hv; rfl) | (rcases hv with rfl | rfl <;> rfl) | (rcases hv with rfl | rfl | rfl <;> rfl)) (by omega) rfl rfl (fun _ => ?_)); refine hx_plain rfl ?_)
      refine h_appendR (m := 3) (E := slE) (T := 22) (xs := ents.map (·.1)) (ys := [⟨a, xs.length, c⟩, ⟨a1, xs.length + 1, c1⟩, ⟨a2, xs.length + 92, c2⟩]) rfl rfl rfl rfl rfl UC.out IC.out rfl (.cons (.tail (.tail (.tail .head))) (.cons .head .nil)) rfl rfl (flat_row slE _) (by unfold maxLen; omega) (by omega) rfl rfl (fun gL cL => ?_)
      (refine hx_plain rfl ?_; refine h_nilCheck rfl rfl rfl rfl ?_; refine Zf rfl rfl rfl rfl rfl ?_; refine hx_plain rfl ?_; refine h_store rfl rfl rfl rfl rfl rfl IC.size (.tail (.tail (.tail .head))) rfl rfl (Nat.le_of_ble_eq_true rfl) (List.all_eq_true.1 rfl) ?_; refine Zt ?_; refine hc_lex ?_; (iterate 2 (refine Zm rfl rfl rfl rfl rfl ?_)); refine hx_plain rfl ?_; refine h_nilCheck rfl rfl rfl rfl ?_; refine Zf rfl rfl rfl rfl rfl ?_; refine Zh rfl rfl rfl rfl rfl rfl rfl ?_; (iterate 2 (refine Zm rfl rfl rfl rfl rfl ?_)); refine hx_plain rfl ?_; refine h_arithI rfl rfl rfl rfl (by omega) rfl rfl ?_; refine Zm rfl rfl rfl rfl rfl ?_; refine hx_plain rfl ?_; refine h_arithI rfl rfl rfl rfl (by omega) rfl rfl ?_; refine hx_plain rfl ?_; (refine h_buildSlice rfl rfl rfl UC.out IC.size IC.zero rfl rfl (by intro v hv; simp at hv; first | (subst hv; rfl) | (rcases hv with rfl | rfl <;> rfl) | (rcases hv with rfl | rfl | rfl <;> rfl)) (by omega) rfl rfl (fun _ => ?_)); refine hx_plain rfl ?_)
      refine h_appendR (m := 3) (E := intE) (T := 3) (xs := ents.map (fun q => (q.2 : Int))) (ys := [(xs.length : Int), (xs.length : Int) + 1, (xs.length : Int) + 92]) rfl rfl rfl rfl rfl UC.out IC.out rfl (.cons (.tail (.tail (.tail (.tail (.tail .head))))) (.cons .head .nil)) rfl rfl (flat_row intE _) (by unfold maxLen; omega) (by omega) rfl rfl (fun gN cN => ?_)
      (refine hx_plain rfl ?_; refine h_nilCheck rfl rfl rfl rfl ?_; refine Zf rfl rfl rfl rfl rfl ?_; refine hx_plain rfl ?_; refine h_store rfl rfl rfl rfl rfl rfl IC.size (.tail (.tail .head)) rfl rfl (Nat.le_of_ble_eq_true rfl) (List.all_eq_true.1 rfl) ?_; refine hx_nil ?_)
      refine hq_ret0 (.inl rfl) rfl ⟨rfl, ents ++ [(⟨a, xs.length, c⟩, xs.length), (⟨a1, xs.length + 1, c1⟩, xs.length + 1), (⟨a2, xs.length + 92, c2⟩, xs.length + 92)], by simp, ⟨?_, ?_⟩, rfl⟩ (fun _ h => ?_)
      · have := h3.1
        rw [List.length_append]
        show (ents.length + 3) % 3 = 0
        omega
      · intro q hq
        rcases List.mem_append.1 hq with hq | hq
        · exact h3.2 q hq
        · simp at hq
          rcases hq with rfl | rfl | rfl <;> (dsimp only; omega)
      have h5 := (h.sub (M := [Row intE 3 gN cN _, Row slE 22 gL cL _, Blk p _, Holds byteE (bkH ents), Holds byteE _]) (.cons (.tail .head) (.cons (.tail (.tail .head)) (.cons .head (.cons (.tail (.tail (.tail .head))) (.cons (.tail (.tail .head)) .nil)))))).rowV_mk
      have h6 := (h5.perm (List.Perm.swap _ _ _)).rowV_mk
      have h7 := (h6.pulls (.cons (.tail (.tail (.tail .head))) (.cons (.tail (.tail (.tail .head))) .nil))).holds_join
      apply BkO_shut (R := [])
      rw [bkH_add _ _ _ _ h3.1, List.map_append, List.map_append, ← hm]
      exact h7.pulls (.cons (.tail (.tail (.tail .head))) (.cons (.tail .head) (.cons (.tail .head) (.cons .head .nil))))
end Go.Proofs.YtfolhmlldoepfaaGreatDoor
namespace Go.Proofs.YtfolhmlldoepfaaGreatDoor
open Go Go.Proofs Go.RowKit
set_option maxRecDepth 4000
theorem bkH_mem {ents : List (SlV × Nat)} {i : Nat} {q : SlV × Nat} (h : ents[i]? = some q) : (q.1.v, Seq (mkF (i / 3)) q.2) ∈ bkH ents := by
  refine List.mem_map.2 ⟨(q, i), ?_, rfl⟩
  exact List.mem_iff_getElem?.2 ⟨i, by rw [List.getElem?_zipIdx, h]; simp⟩
set_option maxHeartbeats 4000000 in
theorem whole_spec (p : Nat) (v3 : Value) (ents : List (SlV × Nat)) (hl : ents.length ≤ 1099511627776) (hB : BkW ents) :
    Spec Tryz.prog 36 [.pointer (some ⟨p, 0, none⟩)] [BkO p v3 ents] (fun u M => u = .bool true ∧ M = [BkO p v3 ents]) := by
  refine spec_of Tryz.func36 rfl rfl (Nat.le_of_ble_eq_true rfl) (fun w F => ?_)
  refine hc_open .head BkO_open ?_
  rintro ⟨vL, vN⟩
  dsimp only
  have hlen : (ents.map (·.1)).length = ents.length := List.length_map _
  have hlen2 : (ents.map (fun q => (q.2 : Int))).length = ents.length := List.length_map _
  (refine Zx rfl rfl rfl rfl rfl ?_; refine hc_seq ?_; refine Zx rfl rfl rfl rfl rfl ?_; refine hc_block ?_)
  refine hc_cut (id := 0) (Y := Unit) (fun _ => []) (fun _ => [BkO p v3 ents]) (fun _ => True) ?_ ?_
  · refine hc_loop (X := Nat) (fun i => [(0, .pointer (some ⟨p, 0, none⟩)), (3, .int .i64 (i : Int))]) (fun i => [Blk p (.cells #[vL, vN, v3] 67 (0, 0)), RowV slE 22 vL (ents.map (·.1)), RowV intE 3 vN (ents.map fun q => (q.2 : Int)), Holds byteE (bkH ents)]) (fun i => i ≤ ents.length) (fun i => ents.length - i) 0 (.cons rfl (.cons rfl .nil)) (Nat.zero_le _) (fun _ h => h) ?_
    intro i hi
    by_cases hlt : i < ents.length
    · refine hc_rowV (.tail .head) ?_ ?_
      · intro _ e1
        have := congrArg List.length e1
        rw [hlen] at this
        have h0 : ents.length = 0 := this
        omega
      rintro gL cL rfl
      refine hc_rowV (.tail (.tail .head)) ?_ ?_
      · intro _ e1
        have := congrArg List.length e1
        rw [hlen2] at this
        have h0 : ents.length = 0 := this
        omega
      rintro gN cN rfl
      obtain ⟨⟨s, n⟩, hq⟩ : ∃ q, ents[i]? = some q := ⟨_, List.getElem?_eq_getElem hlt⟩
      have e1 : (ents.map (·.1))[((i : Nat) : Int).toNat]? = some s := by rw [List.getElem?_map]; show (ents[i]?).map _ = _; rw [hq]; rfl
      have e2 : (ents.map (fun q => (q.2 : Int)))[((i : Nat) : Int).toNat]? = some (n : Int) := by rw [List.getElem?_map]; show (ents[i]?).map _ = _; rw [hq]; rfl
      have hm := bkH_mem hq
      have hnb := hB.2 _ (List.mem_iff_getElem?.2 ⟨i, hq⟩)
      dsimp only at hnb
      dsimp only at hm
      refine hc_know (fun _ h => h.hold_shape (.tail (.tail (.tail .head))) hm) ?_
      rw [Seq.len]
      unfold maxLen
      rintro ⟨a, c, hs, hc1, hc2, ha⟩
      obtain ⟨sa, sl, sc⟩ := s
      injection hs with hs1 hs2 hs3
      dsimp only at hs1 hs2 hs3
      subst hs1 hs2 hs3
      rw [hlen, hlen2]
      (refine hc_seq ?_; refine Zw rfl rfl rfl rfl rfl ?_; refine Zm rfl rfl rfl rfl rfl ?_; refine hx_plain rfl ?_; refine h_nilCheck rfl rfl rfl rfl ?_; refine Zf rfl rfl rfl rfl rfl ?_; refine hx_plain rfl ?_; refine h_load rfl rfl UC.out rfl (.tail (.tail .head)) rfl rfl rfl ?_; refine hx_plain rfl ?_; refine h_len_slice rfl rfl rfl UC.out rfl rfl rfl ?_; refine Zc rfl rfl rfl rfl rfl rfl rfl ?_; refine Zt ?_; refine hc_condDT rfl (by omega) ?_; refine hc_skip ?_; refine hq_then ?_; refine hc_seq ?_; refine hc_block ?_; (iterate 2 (refine hc_seq ?_)); refine hc_draw0 (by kernel_rfl) (by kernel_rfl) ?_; refine Zm rfl rfl rfl rfl rfl ?_; refine hx_plain rfl ?_; refine h_nilCheck rfl rfl rfl rfl ?_; refine Zf rfl rfl rfl rfl rfl ?_; refine hx_plain rfl ?_; refine h_load rfl rfl UC.out rfl (.tail (.tail .head)) rfl rfl rfl ?_; refine Zm rfl rfl rfl rfl rfl ?_; refine hx_plain rfl ?_; refine h_rowAddr rfl rfl rfl UC.out IC.size (by omega) (by omega) rfl rfl ?_; refine hx_plain rfl ?_; refine h_rowLoad1 rfl (.tail .head) rfl UC.out rfl (by with_reducible assumption) rfl rfl rfl ?_; refine hx_plain rfl ?_; refine h_len_slice rfl rfl rfl UC.out rfl rfl rfl ?_; refine Zm rfl rfl rfl rfl rfl ?_; refine hx_plain rfl ?_; refine h_nilCheck rfl rfl rfl rfl ?_; refine Zf rfl rfl rfl rfl rfl ?_; refine hx_plain rfl ?_; refine h_load rfl rfl UC.out rfl (.tail (.tail .head)) rfl rfl rfl ?_; refine Zm rfl rfl rfl rfl rfl ?_; refine hx_plain rfl ?_; refine h_rowAddr rfl rfl rfl UC.out IC.size (by omega) (by omega) rfl rfl ?_; refine hx_plain rfl ?_; refine h_rowLoad1 rfl .head rfl UC.out rfl (by with_reducible assumption) rfl rfl rfl ?_; refine Zc rfl rfl rfl rfl rfl rfl rfl ?_; refine Zt ?_; refine hc_condD rfl (fun hc => ?_) (fun hc => ?_); refine Zx rfl rfl rfl rfl rfl ?_; refine hc_ret ?_; refine hq_ret_then ?_; refine hq_ret_block ?_; (iterate 2 (refine hq_ret_then ?_)); refine hq_cut_ret ?_; refine hq_ret_block ?_; refine hq_ret_then ?_; rotate_left; refine hc_skip ?_; refine hq_then ?_; refine Zx rfl rfl rfl rfl rfl ?_; refine hc_block ?_; rotate_left)
      · exact absurd rfl hc
      refine hc_cut (id := 2) (Y := Unit) (fun _ => [(0, .pointer (some ⟨p, 0, none⟩)), (3, .int .i64 (i : Int))]) (fun _ => [Row intE 3 gN cN (ents.map (fun q => (q.2 : Int))), Row slE 22 gL cL (ents.map (·.1)), Blk p (.cells #[.slice (some ⟨gL, 0, none⟩) ents.length cL, .slice (some ⟨gN, 0, none⟩) ents.length cN, v3] 67 (0, 0)), Holds byteE (bkH ents)]) (fun _ => True) ?_ ?_
      · refine hc_loop (X := Nat) (fun j => [(0, .pointer (some ⟨p, 0, none⟩)), (3, .int .i64 (i : Int)), (4, .int .i64 (j : Int))]) (fun _ => [Row intE 3 gN cN (ents.map (fun q => (q.2 : Int))), Row slE 22 gL cL (ents.map (·.1)), Blk p (.cells #[.slice (some ⟨gL, 0, none⟩) ents.length cL, .slice (some ⟨gN, 0, none⟩) ents.length cN, v3] 67 (0, 0)), Holds byteE (bkH ents)]) (fun j => j ≤ sl) (fun j => sl - j) 0 (.cons rfl (.cons rfl (.cons rfl .nil))) (Nat.zero_le _) (fun _ h => h) ?_
        intro j hj
        by_cases hjl : j < sl
        · obtain ⟨g, off, rfl⟩ := ha.resolve_left (by
            intro e
            have := congrArg List.length e
            rw [Seq.len] at this
            have h0 : sl = 0 := this
            omega)
          have hjm : (Seq (mkF (i / 3)) sl)[((j : Nat) : Int).toNat]? = some (mkF (i / 3) j) := Seq.get hjl
          refine hc_seq ?_
          refine hc_seq ?_
          refine hc_lex ?_
          ((iterate 2 (refine Zm rfl rfl rfl rfl rfl ?_)); refine hx_plain rfl ?_; refine h_nilCheck rfl rfl rfl rfl ?_; refine Zf rfl rfl rfl rfl rfl ?_; refine hx_plain rfl ?_; refine h_load rfl rfl UC.out rfl (.tail (.tail .head)) rfl rfl rfl ?_; refine Zm rfl rfl rfl rfl rfl ?_; refine hx_plain rfl ?_; refine h_rowAddr rfl rfl rfl UC.out IC.size (by omega) (by omega) rfl rfl ?_; refine hx_plain rfl ?_; refine h_rowLoad1 rfl (.tail .head) rfl UC.out rfl (by with_reducible assumption) rfl rfl rfl ?_; refine hx_plain rfl ?_; refine h_len_slice rfl rfl rfl UC.out rfl rfl rfl ?_; refine Zc rfl rfl rfl rfl rfl rfl rfl ?_; refine Zt ?_)
          refine hc_condDT rfl (by omega) ?_
          refine hc_skip ?_
          refine hq_then ?_
          refine hc_seq ?_
          refine hc_block ?_
          refine hc_seq ?_
          refine hc_drawE (D := fun x => St w F [Row intE 3 gN cN (ents.map (fun q => (q.2 : Int))), Row slE 22 gL cL (ents.map (·.1)), Blk p (.cells #[.slice (some ⟨gL, 0, none⟩) ents.length cL, .slice (some ⟨gN, 0, none⟩) ents.length cN, v3] 67 (0, 0)), Holds byteE (bkH ents)] x) (fun i => Nat.beq i 13) [0, 1, 2, 3, 4, 5, 6, 7, 8, 9, 10, 11, 12] [13, 14] (by kernel_rfl) (by kernel_rfl) rfl (fun _ h => h) rfl ?_
          (refine Zm rfl rfl rfl rfl rfl ?_; refine hx_plain rfl ?_; refine h_nilCheck rfl rfl rfl rfl ?_; refine Zf rfl rfl rfl rfl rfl ?_; refine hx_plain rfl ?_; refine h_load rfl rfl UC.out rfl (.tail (.tail .head)) rfl rfl rfl ?_; refine Zm rfl rfl rfl rfl rfl ?_; refine hx_plain rfl ?_; refine h_rowAddr rfl rfl rfl UC.out IC.size (by omega) (by omega) rfl rfl ?_; refine hx_plain rfl ?_; refine h_rowLoad1 rfl (.tail .head) rfl UC.out rfl (by with_reducible assumption) rfl rfl rfl ?_; refine Zm rfl rfl rfl rfl rfl ?_; refine hx_plain rfl ?_; refine h_indexAddr rfl rfl rfl UC.out IC.size (by omega) (by omega) rfl rfl ?_; refine hx_plain rfl ?_; refine h_holdLoad0 rfl (.tail (.tail (.tail .head))) hm rfl UC.out rfl (by with_reducible assumption) rfl rfl rfl ?_; refine Zm rfl rfl rfl rfl rfl ?_; refine hx_plain rfl ?_; refine h_quoI rfl rfl rfl (by omega) rfl rfl ?_; refine Zm rfl rfl rfl rfl rfl ?_; refine hx_nil ?_)
          rw [show (i : Int) / 3 = ((i / 3 : Nat) : Int) by omega]
          refine hd_callRd rfl rfl rfl rfl rfl rfl rfl rfl EC.out (fun w' h => (mark_spec (i / 3) j (by omega) (by omega)).reads _ w' h) (fun _ h => h) ?_
          refine hd_end _ rfl ?_
          (refine Zc rfl rfl rfl rfl rfl rfl rfl ?_; refine hx_nil ?_)
          refine hd_nil ?_
          (refine hq_then ?_; refine hc_condDF rfl (by omega) ?_; refine hc_skip ?_; refine hq_norm_block ?_; refine hq_then ?_; refine hc_lex ?_; refine Zm rfl rfl rfl rfl rfl ?_; refine hx_plain rfl ?_; refine h_arithI rfl rfl rfl rfl (by omega) rfl rfl ?_; refine Za rfl rfl rfl rfl rfl ?_; refine hx_nil ?_)
          exact hq_round (j + 1) (by omega) (by omega) (.cons rfl (.cons rfl (.cons rfl .nil))) (fun _ h => h)
        · (refine hc_seq ?_; refine Zw rfl rfl rfl rfl rfl ?_; refine Zm rfl rfl rfl rfl rfl ?_; refine hx_plain rfl ?_; refine h_nilCheck rfl rfl rfl rfl ?_; refine Zf rfl rfl rfl rfl rfl ?_; refine hx_plain rfl ?_; refine h_load rfl rfl UC.out rfl (.tail (.tail .head)) rfl rfl rfl ?_; refine Zm rfl rfl rfl rfl rfl ?_; refine hx_plain rfl ?_; refine h_rowAddr rfl rfl rfl UC.out IC.size (by omega) (by omega) rfl rfl ?_; refine hx_plain rfl ?_; refine h_rowLoad1 rfl (.tail .head) rfl UC.out rfl (by with_reducible assumption) rfl rfl rfl ?_; refine hx_plain rfl ?_; refine h_len_slice rfl rfl rfl UC.out rfl rfl rfl ?_; refine Zc rfl rfl rfl rfl rfl rfl rfl ?_; refine Zt ?_; refine hc_condDF rfl (by omega) ?_; refine hc_exit ?_; (iterate 2 (refine hq_exit_then ?_)))
          exact hq_cut () trivial (.cons rfl (.cons rfl .nil)) (fun _ h => h)
      · rintro ⟨⟩ _
        (refine hq_exit_block ?_; refine hq_norm_block ?_; refine hq_then ?_; refine hc_lex ?_; refine Zm rfl rfl rfl rfl rfl ?_; refine hx_plain rfl ?_; refine h_arithI rfl rfl rfl rfl (by omega) rfl rfl ?_; refine Za rfl rfl rfl rfl rfl ?_; refine hx_nil ?_)
        refine hq_round (i + 1) (by omega) (by omega) (.cons rfl (.cons rfl .nil)) (fun _ h => ?_)
        have h1 := h.rowV_mk
        rw [hlen2] at h1
        have h2 := (h1.perm (List.Perm.swap _ _ _)).rowV_mk
        rw [hlen] at h2
        exact h2.sub (.cons (.tail (.tail .head)) (.cons .head (.cons .head (.cons .head .nil))))
    · (refine hc_seq ?_; refine Zw rfl rfl rfl rfl rfl ?_; refine Zm rfl rfl rfl rfl rfl ?_; refine hx_plain rfl ?_; refine h_nilCheck rfl rfl rfl rfl ?_; refine Zf rfl rfl rfl rfl rfl ?_; refine Zh rfl rfl rfl rfl rfl rfl rfl ?_; refine hx_plain rfl ?_)
      refine h_lenV rfl rfl (.tail .head) rfl UC.out rfl rfl rfl ?_
      rw [hlen]
      (refine Zc rfl rfl rfl rfl rfl rfl rfl ?_; refine Zt ?_; refine hc_condDF rfl (by omega) ?_; refine hc_exit ?_; (iterate 2 (refine hq_exit_then ?_)))
      exact hq_cut () trivial .nil (fun _ h => BkO_shut h)
  · rintro ⟨⟩ _
    (refine hq_exit_block ?_; refine hq_then ?_; refine Zx rfl rfl rfl rfl rfl ?_; refine hc_ret ?_)
    exact hq_ret1 (.inr rfl) rfl rfl ⟨rfl, rfl⟩ (fun _ h => h)
end Go.Proofs.YtfolhmlldoepfaaGreatDoor
namespace Go.Proofs.YtfolhmlldoepfaaGreatDoor
open Go Go.Proofs Go.RowKit
set_option maxRecDepth 4000
theorem all_drop {X : Type} {f : X → Asn} {l : List X} {i : Nat} (hi : i < l.length) (w w0 : World) (F0 : Nat → Prop) (R : List Asn) (h : St w0 F0 (All ((l.drop i).map f) :: R) w) : ∃ _ : Unit, St w0 F0 ([f l[i], All ((l.drop (i + 1)).map f)] ++ R) w := by
  rw [List.drop_eq_getElem_cons hi, List.map_cons] at h
  exact ⟨(), shl_cons h⟩
set_option maxHeartbeats 4000000 in
theorem all_spec (p : Nat) (v3 : Value) (ents : List (SlV × Nat)) (g c : Nat) (sls : List SlV) (wv : Value) (xs : List Int) (hW : BkW ents) (hn : ents.length + 3 * sls.length ≤ 1099511627776) (hx : xs.length ≤ 1099511627600) (_hs : sls.length ≤ 1048576) :
    Spec Tryz.prog 65 [.pointer (some ⟨p, 0, none⟩), .slice (some ⟨g, 0, none⟩) sls.length c, wv] [BkO p v3 ents, Row slE 22 g c sls, RowV byteE 5 wv xs, All (sls.map fun s => RowV byteE 5 s.v xs)] (fun u M => u = .bool true ∧ ∃ ents', ents'.length = ents.length + 3 * sls.length ∧ BkW ents' ∧ M = [BkO p v3 ents']) := by
  refine spec_of Tryz.func65 rfl rfl (Nat.le_of_ble_eq_true rfl) (fun w F => ?_)
  (refine Zx rfl rfl rfl rfl rfl ?_; refine hc_seq ?_; refine Zx rfl rfl rfl rfl rfl ?_; refine hc_block ?_)
  refine hc_cut (id := 0) (Y := List (SlV × Nat)) (fun _ => []) (fun y => [BkO p v3 y]) (fun y => y.length = ents.length + 3 * sls.length ∧ BkW y) ?_ ?_
  · refine hc_loop (X := Nat × List (SlV × Nat)) (fun x => [(0, .pointer (some ⟨p, 0, none⟩)), (1, .slice (some ⟨g, 0, none⟩) sls.length c), (2, wv), (7, .int .i64 (x.1 : Int))]) (fun x => [BkO p v3 x.2, Row slE 22 g c sls, RowV byteE 5 wv xs, All ((sls.drop x.1).map fun s => RowV byteE 5 s.v xs)]) (fun x => x.1 ≤ sls.length ∧ x.2.length = ents.length + 3 * x.1 ∧ BkW x.2) (fun x => sls.length - x.1) (0, ents) (.cons rfl (.cons rfl (.cons rfl (.cons rfl .nil)))) ⟨Nat.zero_le _, rfl, hW⟩ (fun _ h => h) ?_
    rintro ⟨i, es⟩ ⟨hi, hl, hw⟩
    dsimp only at hi hl hw ⊢
    by_cases hlt : i < sls.length
    case neg =>
      obtain rfl : i = sls.length := by omega
      (refine hc_seq ?_; refine Zw rfl rfl rfl rfl rfl ?_; refine Zm rfl rfl rfl rfl rfl ?_; refine hx_plain rfl ?_; refine h_len_slice rfl rfl rfl UC.out rfl rfl rfl ?_; refine Zc rfl rfl rfl rfl rfl rfl rfl ?_; refine Zt ?_; refine hc_condDF rfl (by omega) ?_; refine hc_exit ?_; (iterate 2 (refine hq_exit_then ?_)))
      exact hq_cut es ⟨hl, hw⟩ .nil (fun _ h => h.sub (.cons .head .nil))
    obtain ⟨s, hse⟩ : ∃ s, sls[i] = s := ⟨_, rfl⟩
    have e1 : sls[((i : Nat) : Int).toNat]? = some s := by rw [show ((i : Nat) : Int).toNat = i by omega, List.getElem?_eq_getElem hlt, hse]
    refine hc_open (.tail (.tail (.tail .head))) (all_drop hlt) ?_
    rintro ⟨⟩
    rw [hse]
    (refine hc_seq ?_; refine Zw rfl rfl rfl rfl rfl ?_; refine Zm rfl rfl rfl rfl rfl ?_; refine hx_plain rfl ?_; refine h_len_slice rfl rfl rfl UC.out rfl rfl rfl ?_; refine Zc rfl rfl rfl rfl rfl rfl rfl ?_; refine Zt ?_; refine hc_condDT rfl (by omega) ?_; refine hc_skip ?_; refine hq_then ?_; refine hc_seq ?_; refine hc_block ?_; refine Zw rfl rfl rfl rfl rfl ?_; refine Zm rfl rfl rfl rfl rfl ?_; refine hx_plain rfl ?_; refine h_rowAddr rfl rfl rfl UC.out IC.size (by omega) (by omega) rfl rfl ?_; refine hx_plain rfl ?_; refine h_rowLoad1 rfl (.tail (.tail (.tail .head))) rfl UC.out rfl (by with_reducible assumption) rfl rfl rfl ?_; refine Zm rfl rfl rfl rfl rfl ?_; refine hx_plain rfl ?_)
    refine h_callRd rfl rfl rfl rfl rfl rfl EC.out (fun w' h => sameBytes (h.rdRowV .head) (h.rdRowV (.tail (.tail (.tail (.tail .head)))))) ?_
    rw [decide_eq_true rfl]
    (refine Zn rfl rfl rfl rfl rfl ?_; refine hc_seq ?_; refine Zw rfl rfl rfl rfl rfl ?_; refine hx_plain rfl ?_; refine h_not rfl rfl rfl rfl ?_; refine Zt ?_; refine hc_condF rfl ?_; refine hc_skip ?_; refine hq_then ?_; refine hc_lex ?_; (iterate 3 (refine Zm rfl rfl rfl rfl rfl ?_)); refine hx_plain rfl ?_; refine h_rowAddr rfl rfl rfl UC.out IC.size (by omega) (by omega) rfl rfl ?_; refine hx_plain rfl ?_; refine h_rowLoad1 rfl (.tail (.tail (.tail .head))) rfl UC.out rfl (by with_reducible assumption) rfl rfl rfl ?_; refine hx_plain rfl ?_)
    refine h_call rfl rfl rfl rfl rfl rfl rfl rfl EC.out (.cons (.tail (.tail .head)) (.cons .head .nil)) (keep_spec p v3 es s.v xs hw (by omega) hx) ?_
    rintro u M ⟨rfl, es', hl', hw', rfl⟩
    (refine hx_nil ?_; refine hq_norm_block ?_; refine hq_then ?_; refine hc_lex ?_; refine Zm rfl rfl rfl rfl rfl ?_; refine hx_plain rfl ?_; refine h_arithI rfl rfl rfl rfl (by omega) rfl rfl ?_; refine Za rfl rfl rfl rfl rfl ?_; refine hx_nil ?_)
    exact hq_round (i + 1, es') (by show sls.length - (i + 1) < sls.length - i; omega) ⟨by show i + 1 ≤ _; omega, by show es'.length = _ + 3 * (i + 1); omega, hw'⟩ (.cons rfl (.cons rfl (.cons rfl (.cons rfl .nil)))) (fun _ h => h.sub (.cons .head (.cons (.tail .head) (.cons (.tail .head) (.cons .head .nil)))))
  · rintro es ⟨hl, hw⟩
    (refine hq_exit_block ?_; refine hq_then ?_; refine Zx rfl rfl rfl rfl rfl ?_; refine hc_ret ?_)
    exact hq_ret1 (.inr rfl) rfl rfl ⟨rfl, es, hl, hw, rfl⟩ (fun _ h => h)
end Go.Proofs.YtfolhmlldoepfaaGreatDoor
namespace Go.Proofs.YtfolhmlldoepfaaGreatDoor
open Go Go.Proofs Go.RowKit
set_option maxRecDepth 4000
theorem eq3 {P : Program} {t : TypeId} {w : World} {s : ByteArray} {a b : Int} (f0 f1 f2 : Field) (hu : P.underlying t = some (.struct (P.fieldsOf t))) (hp : P.stoodInHeld t = false) (hf : (P.fieldsOf t).toList = [f0, f1, f2]) (h0 : f0.offset = 0) (h1 : f1.offset = 1) (h2 : f2.offset = 2) (u0 : P.underlying f0.type = some .string) (u1 : P.underlying f1.type = some (.int .i64)) (u2 : P.underlying f2.type = some (.int .i64)) :
    (Op.equalIn 10000 t (.agg #[.string s, .int .i64 a, .int .i64 b]) (.agg #[.string s, .int .i64 a, .int .i64 b])).run P w = .ok true w := by
  rw [run_equalIn_struct w 9999 t _ _ hu hp, hf]
  have p0 : P.plainKey f0.type = true := by simp [Program.plainKey, u0]
  have p1 : P.plainKey f1.type = true := by simp [Program.plainKey, u1]
  have p2 : P.plainKey f2.type = true := by simp [Program.plainKey, u2]
  have r0 : (part f0.type #[.string s, .int .i64 a, .int .i64 b] f0.offset).run P w = .ok (.string s) w := run_part_plain w p0 (by rw [h0]; rfl)
  have r1 : (part f1.type #[.string s, .int .i64 a, .int .i64 b] f1.offset).run P w = .ok (.int .i64 a) w := run_part_plain w p1 (by rw [h1]; rfl)
  have r2 : (part f2.type #[.string s, .int .i64 a, .int .i64 b] f2.offset).run P w = .ok (.int .i64 b) w := run_part_plain w p2 (by rw [h2]; rfl)
  have e0 := run_equalIn_string (P := P) w 9998 f0.type s s u0
  have e1 := run_equalIn_int (P := P) w 9998 f1.type .i64 .i64 a a u1
  have e2 := run_equalIn_int (P := P) w 9998 f2.type .i64 .i64 b b u2
  simp only [Op.eqFields]
  repeat' split
  all_goals simp [Sem.run_bind, r0, r1, r2, e0, e1, e2, Result.andThen_ok]
theorem h_neqEnt {n : Nat} {ds : List Deferred} {ops : Array Oper} {ev wk : Nat → Bool} {K : Env → (World → Prop) → Prop} {r : List Oper} {o : Oper} {k : Nat} {e : Env} {C : World → Prop} {t2 : TypeId} {x y : Operand} {s : ByteArray} {a b : Int} (ho : o.op = .binOp .neq 94 x y t2) (hx : e.op x = some (.agg #[.string s, .int .i64 a, .int .i64 b])) (hy : e.op y = some (.agg #[.string s, .int .i64 a, .int .i64 b]))
    {dd : Nat} (hdst : o.dst = some dd) (hd : okD n (some dd) = true) (h : HX Tryz.prog n ds ops ev wk K r (k + 1) ((dd, .bool false) :: e) C) : HX1 Tryz.prog n ds ops ev wk K o r k e C :=
  hx1_pure (by rw [ho]; rfl) hdst hd (fun a' w ha => by
    have hout := eq3 (P := Tryz.prog) (t := 94) (w := w) (s := s) (a := a) (b := b) ((Tryz.prog.fieldsOf 94)[0]!) ((Tryz.prog.fieldsOf 94)[1]!) ((Tryz.prog.fieldsOf 94)[2]!) (by kernel_rfl) (by kernel_rfl) (by kernel_rfl) (by kernel_rfl) (by kernel_rfl) (by kernel_rfl) (by kernel_rfl) (by kernel_rfl) (by kernel_rfl)
    have hg : Tryz.prog.eqGuardType Tryz.prog.depth 94 = false := by kernel_rfl
    simp only [execOp, ho, ha.eval hx, ha.eval hy, Sem.run_bind, run_eqGuard_agg w _ _ _ _ _ _ hg, Result.andThen_ok, run_neq_struct, hout]
    rfl) h
def enM (i : Nat) : EntV := ⟨⟨#[]⟩, -1 - (i : Int), 0⟩
theorem entry_spec (i : Nat) (hi : i ≤ 1099511627776) : Spec0 Tryz.prog 69 [.int .i64 (i : Int)] (.agg #[.string ⟨#[]⟩, .int .i64 (-1 - (i : Int)), .int .i64 0]) := by
  refine spec_of Tryz.func69 rfl rfl (Nat.le_of_ble_eq_true rfl) (fun w F => ?_)
  (refine Zl rfl ?_; (refine h_alloc rfl rfl IC.zero rfl rfl rfl (fun _ => ?_)); refine Zt ?_; refine Zw rfl rfl rfl rfl rfl ?_; refine hx_plain rfl ?_; refine h_arithI rfl rfl rfl rfl (by omega) rfl rfl ?_; refine hx_plain rfl ?_; refine h_build rfl inferInstance rfl rfl rfl rfl ?_; refine hx_plain rfl ?_; refine h_storeAll rfl rfl rfl rfl rfl rfl IC.size .head rfl rfl rfl (List.all_eq_true.1 rfl) ?_; refine Zt ?_; refine hc_ret ?_)
  exact hq_R1 (.inr rfl) rfl (rv_cell rfl .head UC.out rfl IC.size) ⟨rfl, rfl⟩ (fun _ h => h.emp)
/-- The lists of entries, with what they hold. -/
def bkE (es : List (SlV × Nat)) : List (Value × List EntV) := es.zipIdx.map fun q => (q.1.1.v, Seq (fun _ => enM (q.2 / 3)) q.1.2)
def BkE (v3 : Value) (es : List (SlV × Nat)) : Asn := All [RowV slE 28 v3 (es.map (·.1)), Holds entE (bkE es)]
theorem BkE_open {v3 : Value} {es : List (SlV × Nat)} (w w0 : World) (F0 : Nat → Prop) (R : List Asn) (h : St w0 F0 (BkE v3 es :: R) w) : ∃ _ : Unit, St w0 F0 ([RowV slE 28 v3 (es.map (·.1)), Holds entE (bkE es)] ++ R) w := ⟨(), St.all.1 h⟩
theorem BkE_shut {v3 : Value} {es : List (SlV × Nat)} {w w0 : World} {F0 : Nat → Prop} {R : List Asn} (h : St w0 F0 ([RowV slE 28 v3 (es.map (·.1)), Holds entE (bkE es)] ++ R) w) : St w0 F0 (BkE v3 es :: R) w := St.all.2 h
theorem BkE_new {w w0 : World} {F0 : Nat → Prop} {R : List Asn} (h : St w0 F0 R w) : St w0 F0 (BkE (.slice none 0 0) [] :: R) w := by
  have h1 : St w0 F0 (Holds entE [] :: RowV slE 28 (.slice none 0 0) [] :: R) w := (St.rowV_nil h).holds_nil
  exact BkE_shut (h1.perm (List.Perm.swap _ _ _))
theorem bkE_add (es : List (SlV × Nat)) (a b c : SlV × Nat) (h3 : es.length % 3 = 0) : bkE (es ++ [a, b, c]) = bkE es ++ [(a.1.v, Seq (fun _ => enM (es.length / 3)) a.2), (b.1.v, Seq (fun _ => enM (es.length / 3)) b.2), (c.1.v, Seq (fun _ => enM (es.length / 3)) c.2)] := by
  have e1 : (es.length + 1) / 3 = es.length / 3 := by omega
  have e2 : (es.length + 2) / 3 = es.length / 3 := by omega
  simp [bkE, List.zipIdx_append, e1, e2]
/-- The first i of a list overwritten. -/
def fillE (m : EntV) (xs : List EntV) (i : Nat) : List EntV := Seq (fun _ => m) i ++ xs.drop i
theorem fillE_len {m : EntV} {xs : List EntV} {i : Nat} (h : i ≤ xs.length) : (fillE m xs i).length = xs.length := by
  unfold fillE
  rw [List.length_append, Seq.len, List.length_drop]
  omega
theorem fillE_get {m : EntV} {xs : List EntV} {i : Nat} (h : i < xs.length) : (fillE m xs i)[i]? = some xs[i] := by
  unfold fillE
  rw [List.getElem?_append_right (by rw [Seq.len]; exact Nat.le_refl _), Seq.len, Nat.sub_self, List.getElem?_drop, Nat.add_zero, List.getElem?_eq_getElem h]
theorem fillE_set {m : EntV} {xs : List EntV} {i : Nat} (h : i < xs.length) : (fillE m xs i).set i m = fillE m xs (i + 1) := by
  unfold fillE
  rw [List.set_append_right _ _ (by rw [Seq.len]; exact Nat.le_refl _), Seq.len, Nat.sub_self, List.drop_eq_getElem_cons h, List.set_cons_zero, Seq.succ, List.append_assoc]
  rfl
theorem fillE_all {m : EntV} {xs : List EntV} {i : Nat} (h : xs.length ≤ i) (h2 : i ≤ xs.length) : fillE m xs i = Seq (fun _ => m) xs.length := by
  obtain rfl : i = xs.length := by omega
  unfold fillE
  rw [List.drop_length, List.append_nil]
theorem poolE_one (m : EntV) (l : Nat) : ∀ i, i < 1 → ∀ j u, (entE.enc ((fun _ => m : Nat → EntV) (l + i)))[j]? = some u → (#[.string m.name, .int .i64 m.id, .int .i64 m.kind] : Array Value)[i * entE.sz + j]? = some u := by
  intro i hi j u h
  obtain rfl : i = 0 := by omega
  rw [Nat.zero_mul, Nat.zero_add]
  match j, h with
  | 0, h => exact h
  | 1, h => exact h
  | 2, h => exact h
  | j + 3, h => simp [entE] at h
end Go.Proofs.YtfolhmlldoepfaaGreatDoor
namespace Go.Proofs.YtfolhmlldoepfaaGreatDoor
open Go Go.Proofs Go.RowKit
set_option maxRecDepth 4000
set_option maxHeartbeats 8000000 in
theorem entries_spec (p : Nat) (v3 v : Value) (ents es : List (SlV × Nat)) (xs : List EntV) (h3 : es.length % 3 = 0) (hl : es.length ≤ 1099511627776) (hx : xs.length ≤ 1000) :
    Spec Tryz.prog 67 [.pointer (some ⟨p, 0, none⟩), v] [BkO p v3 ents, BkE v3 es, RowV entE 94 v xs] (fun u M => u = .tuple #[] ∧ ∃ v3' es', es'.length = es.length + 3 ∧ (∀ q ∈ es', q ∈ es ∨ q.2 ≤ 2000) ∧ M = [BkO p v3' ents, BkE v3' es']) := by
  refine spec_of Tryz.func67 rfl rfl (Nat.le_of_ble_eq_true rfl) (fun w F => ?_)
  refine hc_open .head BkO_open ?_
  rintro ⟨vL, vN⟩
  dsimp only
  refine hc_open (.tail (.tail (.tail (.tail .head)))) BkE_open ?_
  rintro ⟨⟩
  refine hc_know (fun _ h => St.rowV_shapeS h (.tail (.tail (.tail (.tail (.tail (.tail .head))))))) ?_
  rintro ⟨a, c, rfl⟩
  have hlen : (es.map (·.1)).length = es.length := List.length_map _
  (refine Zw rfl rfl rfl rfl rfl ?_; refine hx_plain rfl ?_; refine h_nilCheck rfl rfl rfl rfl ?_; refine Zf rfl rfl rfl rfl rfl ?_; refine hx_plain rfl ?_; refine h_load rfl rfl UC.out rfl (.tail (.tail .head)) rfl rfl rfl ?_; refine hx_plain rfl ?_)
  refine h_lenV rfl rfl .head rfl UC.out rfl rfl rfl ?_
  rw [hlen]
  (refine hx_plain rfl ?_; refine h_quoI rfl rfl rfl (by omega) rfl rfl ?_; refine hx_plain rfl ?_)
  rw [show (es.length : Int) / 3 = ((es.length / 3 : Nat) : Int) by omega]
  obtain ⟨m, hm⟩ : ∃ m : Nat, m = es.length / 3 := ⟨_, rfl⟩
  have hm2 : m ≤ 1099511627776 := by omega
  rw [← hm]
  refine h_callR rfl rfl rfl rfl rfl rfl EC.out ((entry_spec m hm2).reads _) ?_
  (refine hx_plain rfl ?_; (refine h_alloc rfl rfl IC.zero rfl rfl rfl (fun _ => ?_)); refine hx_plain rfl ?_; refine h_storeAll rfl rfl rfl rfl rfl rfl IC.size .head rfl rfl rfl (List.all_eq_true.1 rfl) ?_; refine Zt ?_; refine hc_seq ?_; refine Zx rfl rfl rfl rfl rfl ?_; refine hc_block ?_)
  rename_i bm
  refine hc_cut (id := 0) (Y := Unit) (fun _ => [(0, .pointer (some ⟨p, 0, none⟩)), (1, .slice a xs.length c), (4, .pointer (some ⟨bm, 0, none⟩))]) (fun _ => [Blk bm (.cells #[.string ⟨#[]⟩, .int .i64 (-1 - (m : Int)), .int .i64 0] 94 (0, 0)), RowV slE 28 v3 (es.map (·.1)), Holds entE (bkE es), Blk p (.cells #[vL, vN, v3] 67 (0, 0)), RowV slE 22 vL (ents.map (·.1)), RowV intE 3 vN (ents.map fun q => (q.2 : Int)), Holds byteE (bkH ents), RowV entE 94 (.slice a xs.length c) (Seq (fun _ => enM m) xs.length)]) (fun _ => True) ?_ ?_
  · refine hc_loop (X := Nat) (fun i => [(0, .pointer (some ⟨p, 0, none⟩)), (1, .slice a xs.length c), (4, .pointer (some ⟨bm, 0, none⟩)), (5, .int .i64 (i : Int))]) (fun i => [Blk bm (.cells #[.string ⟨#[]⟩, .int .i64 (-1 - (m : Int)), .int .i64 0] 94 (0, 0)), RowV slE 28 v3 (es.map (·.1)), Holds entE (bkE es), Blk p (.cells #[vL, vN, v3] 67 (0, 0)), RowV slE 22 vL (ents.map (·.1)), RowV intE 3 vN (ents.map fun q => (q.2 : Int)), Holds byteE (bkH ents), RowV entE 94 (.slice a xs.length c) (fillE (enM m) xs i)]) (fun i => i ≤ xs.length) (fun i => xs.length - i) 0 (.cons rfl (.cons rfl (.cons rfl (.cons rfl .nil)))) (Nat.zero_le _) (fun _ h => h) ?_
    intro i hi
    by_cases hlt : i < xs.length
    · refine hc_rowV (.tail (.tail (.tail (.tail (.tail (.tail (.tail .head))))))) ?_ ?_
      · intro _ e1
        have := congrArg List.length e1
        rw [fillE_len hi] at this
        have h0 : xs.length = 0 := this
        omega
      · rintro g cap e
        rw [fillE_len hi] at e
        injection e with e1 e2 e3
        subst e1 e3
        have e1 : (fillE (enM m) xs i)[i]? = some xs[i] := fillE_get hlt
        (refine hc_seq ?_; refine Zw rfl rfl rfl rfl rfl ?_; refine Zm rfl rfl rfl rfl rfl ?_; refine hx_plain rfl ?_; refine h_len_slice rfl rfl rfl UC.out rfl rfl rfl ?_; refine Zc rfl rfl rfl rfl rfl rfl rfl ?_; refine Zt ?_; refine hc_condDT rfl (by omega) ?_; refine hc_skip ?_; refine hq_then ?_; refine hc_seq ?_; refine hc_block ?_; refine hc_lex ?_; (iterate 2 (refine Zm rfl rfl rfl rfl rfl ?_)); refine hx_plain rfl ?_)
        refine h_loadP (cs' := #[.string ⟨#[]⟩, .int .i64 (-1 - (m : Int)), .int .i64 0]) rfl rfl UC.out rfl IC.size (.tail .head) rfl (by kernel_rfl) rfl rfl ?_
        (refine hx_plain rfl ?_; refine h_rowAddr rfl rfl rfl UC.out IC.size (by omega) (by omega) rfl rfl ?_; refine hx_plain rfl ?_)
        refine h_rowStoreN (i := i) (z := enM m) rfl rfl rfl .head rfl rfl rfl IC.size e1 rfl rfl ?_
        (refine hx_nil ?_; refine hq_norm_block ?_; refine hq_then ?_; refine hc_lex ?_; refine Zm rfl rfl rfl rfl rfl ?_; refine hx_plain rfl ?_; refine h_arithI rfl rfl rfl rfl (by omega) rfl rfl ?_; refine Za rfl rfl rfl rfl rfl ?_; refine hx_nil ?_)
        refine hq_round (i + 1) (by omega) (by omega) (.cons rfl (.cons rfl (.cons rfl (.cons rfl .nil)))) (fun _ h => ?_)
        have h2 : fillE (enM m) xs (i + 1) = (fillE (enM m) xs i).set i (enM m) := (fillE_set hlt).symm
        rw [h2]
        have h3 := (show St _ _ (Row entE 94 g c ((fillE (enM m) xs i).set i (enM m)) :: _) _ from h).rowV_mk
        rw [List.length_set, fillE_len hi] at h3
        exact h3.sub (.cons (.tail .head) (.cons (.tail .head) (.cons (.tail .head) (.cons (.tail .head) (.cons (.tail .head) (.cons (.tail .head) (.cons (.tail .head) (.cons .head .nil))))))))
    · rw [fillE_all (by omega) hi]
      (refine hc_seq ?_; refine Zw rfl rfl rfl rfl rfl ?_; refine Zm rfl rfl rfl rfl rfl ?_; refine hx_plain rfl ?_; refine h_len_slice rfl rfl rfl UC.out rfl rfl rfl ?_; refine Zc rfl rfl rfl rfl rfl rfl rfl ?_; refine Zt ?_; refine hc_condDF rfl (by omega) ?_; refine hc_exit ?_; (iterate 2 (refine hq_exit_then ?_)))
      exact hq_cut () trivial (.cons rfl (.cons rfl (.cons rfl .nil))) (fun _ h => h)
  · rintro ⟨⟩ _
    (refine hq_exit_block ?_; refine hq_then ?_; refine Zw rfl rfl rfl rfl rfl ?_; refine hx_plain rfl ?_)
    refine h_loadP (cs' := #[.string ⟨#[]⟩, .int .i64 (-1 - (m : Int)), .int .i64 0]) rfl rfl UC.out rfl IC.size .head rfl (by kernel_rfl) rfl rfl ?_
    (refine hx_plain rfl ?_; (refine h_buildSlice rfl rfl rfl UC.out IC.size IC.zero rfl rfl (by intro v hv; simp at hv; first | (subst hv; rfl) | (rcases hv with rfl | rfl <;> rfl) | (rcases hv with rfl | rfl | rfl <;> rfl)) (by omega) rfl rfl (fun _ => ?_)); refine hx_plain rfl ?_)
    rename_i b
    refine hx1_conv rfl rfl (C' := St w F [Pool entE 94 (fun _ => enM m) [(.slice a xs.length c, xs.length)], Blk b (.cells #[.string ⟨#[]⟩, .int .i64 (-1 - (m : Int)), .int .i64 0] 94 (0, 0)), Blk bm (.cells #[.string ⟨#[]⟩, .int .i64 (-1 - (m : Int)), .int .i64 0] 94 (0, 0)), RowV slE 28 v3 (es.map (·.1)), Holds entE (bkE es), Blk p (.cells #[vL, vN, v3] 67 (0, 0)), RowV slE 22 vL (ents.map (·.1)), RowV intE 3 vN (ents.map fun q => (q.2 : Int)), Holds byteE (bkH ents)]) (fun _ h => ?_) ?_
    · exact St.pool (h.sub (.cons (.tail (.tail (.tail (.tail (.tail (.tail (.tail (.tail .head)))))))) (.cons .head (.cons .head (.cons .head (.cons .head (.cons .head (.cons .head (.cons .head (.cons .head .nil))))))))))
    refine h_poolAppend (E := entE) (T := 94) (f := fun _ => enM m) (l := xs.length) (m := 1) rfl rfl rfl rfl rfl UC.out IC.out rfl (.cons .head (.cons .head .nil)) (.head _) rfl (poolE_one (enM m) xs.length) (by unfold maxLen; omega) (by omega) rfl rfl (fun v1 => ?_)
    (refine Zn rfl rfl rfl rfl rfl ?_; refine Zw rfl rfl rfl rfl rfl ?_; refine hx_plain rfl ?_)
    refine h_loadP (cs' := #[.string ⟨#[]⟩, .int .i64 (-1 - (m : Int)), .int .i64 0]) rfl rfl UC.out rfl IC.size (.tail (.tail .head)) rfl (by kernel_rfl) rfl rfl ?_
    (refine hx_plain rfl ?_; (refine h_buildSlice rfl rfl rfl UC.out IC.size IC.zero rfl rfl (by intro v hv; simp at hv; first | (subst hv; rfl) | (rcases hv with rfl | rfl <;> rfl) | (rcases hv with rfl | rfl | rfl <;> rfl)) (by omega) rfl rfl (fun _ => ?_)); refine hx_plain rfl ?_)
    refine h_poolAppend (E := entE) (T := 94) (f := fun _ => enM m) (l := xs.length) (m := 1) rfl rfl rfl rfl rfl UC.out IC.out rfl (.cons (.tail .head) (.cons .head .nil)) (.head _) rfl (poolE_one (enM m) xs.length) (by unfold maxLen; omega) (by omega) rfl rfl (fun v2 => ?_)
    (refine Zn rfl rfl rfl rfl rfl ?_; refine hc_seq ?_; refine Zx rfl rfl rfl rfl rfl ?_; refine hc_block ?_)
    refine hc_cut (id := 2) (Y := Value) (fun v2 => [(0, .pointer (some ⟨p, 0, none⟩)), (1, .slice a xs.length c), (6, v1), (7, v2)]) (fun v2 => [Pool entE 94 (fun _ => enM m) [(.slice a xs.length c, xs.length), (v1, xs.length + 1), (v2, xs.length + 41)], RowV slE 28 v3 (es.map (·.1)), Holds entE (bkE es), Blk p (.cells #[vL, vN, v3] 67 (0, 0)), RowV slE 22 vL (ents.map (·.1)), RowV intE 3 vN (ents.map fun q => (q.2 : Int)), Holds byteE (bkH ents)]) (fun _ => True) ?_ ?_
    · refine hc_loop (X := Nat × Value) (fun x => [(0, .pointer (some ⟨p, 0, none⟩)), (1, .slice a xs.length c), (4, .pointer (some ⟨bm, 0, none⟩)), (6, v1), (7, x.2), (8, .int .i64 (x.1 : Int))]) (fun x => [Pool entE 94 (fun _ => enM m) [(.slice a xs.length c, xs.length), (v1, xs.length + 1), (x.2, xs.length + 1 + x.1)], Blk bm (.cells #[.string ⟨#[]⟩, .int .i64 (-1 - (m : Int)), .int .i64 0] 94 (0, 0)), RowV slE 28 v3 (es.map (·.1)), Holds entE (bkE es), Blk p (.cells #[vL, vN, v3] 67 (0, 0)), RowV slE 22 vL (ents.map (·.1)), RowV intE 3 vN (ents.map fun q => (q.2 : Int)), Holds byteE (bkH ents)]) (fun x => x.1 ≤ 40) (fun x => 40 - x.1) (0, v2) (.cons rfl (.cons rfl (.cons rfl (.cons rfl (.cons rfl (.cons rfl .nil)))))) (Nat.zero_le _) (fun _ h => by (refine St.sub ?_ h; (with_reducible refine .cons .head ?_); (with_reducible refine .cons (.tail (.tail .head)) ?_); (with_reducible refine .cons (.tail (.tail .head)) ?_); (with_reducible refine .cons (.tail (.tail .head)) ?_); (with_reducible refine .cons (.tail (.tail .head)) ?_); (with_reducible refine .cons (.tail (.tail .head)) ?_); (with_reducible refine .cons (.tail (.tail .head)) ?_); (with_reducible refine .cons (.tail (.tail .head)) ?_); exact .nil)) ?_
      rintro ⟨i, v2⟩ hi
      dsimp only at hi ⊢
      by_cases hlt : i < 40
      · (refine hc_seq ?_; refine Zw rfl rfl rfl rfl rfl ?_; refine Zc rfl rfl rfl rfl rfl rfl rfl ?_; refine Zt ?_; refine hc_condDT rfl (by omega) ?_; refine hc_skip ?_; refine hq_then ?_; refine hc_seq ?_; refine hc_block ?_; refine hc_lex ?_; refine Zm rfl rfl rfl rfl rfl ?_; refine hx_plain rfl ?_)
        refine h_loadP (cs' := #[.string ⟨#[]⟩, .int .i64 (-1 - (m : Int)), .int .i64 0]) rfl rfl UC.out rfl IC.size (.tail .head) rfl (by kernel_rfl) rfl rfl ?_
        (refine hx_plain rfl ?_; (refine h_buildSlice rfl rfl rfl UC.out IC.size IC.zero rfl rfl (by intro v hv; simp at hv; first | (subst hv; rfl) | (rcases hv with rfl | rfl <;> rfl) | (rcases hv with rfl | rfl | rfl <;> rfl)) (by omega) rfl rfl (fun _ => ?_)); refine hx_plain rfl ?_)
        refine h_poolAppend (E := entE) (T := 94) (f := fun _ => enM m) (l := xs.length + 1 + i) (m := 1) rfl rfl rfl rfl rfl UC.out IC.out rfl (.cons (.tail .head) (.cons .head .nil)) (.tail _ (.tail _ (.head _))) rfl (poolE_one (enM m) (xs.length + 1 + i)) (by unfold maxLen; omega) (by omega) rfl rfl (fun v4 => ?_)
        (refine Za rfl rfl rfl rfl rfl ?_; refine hx_nil ?_; refine hq_norm_block ?_; refine hq_then ?_; refine hc_lex ?_; refine Zm rfl rfl rfl rfl rfl ?_; refine hx_plain rfl ?_; refine h_arithI rfl rfl rfl rfl (by omega) rfl rfl ?_; refine Za rfl rfl rfl rfl rfl ?_; refine hx_nil ?_)
        refine hq_round (i + 1, v4) (by show 40 - (i + 1) < 40 - i; omega) (by show i + 1 ≤ 40; omega) (.cons rfl (.cons rfl (.cons rfl (.cons rfl (.cons rfl (.cons rfl .nil)))))) (fun _ h => ?_)
        refine St.pool_sub (ents := [(.slice a xs.length c, xs.length), (v1, xs.length + 1), (v2, xs.length + 1 + i)] ++ [(v4, xs.length + 1 + i + 1)]) ?_ (by (refine St.sub ?_ h; (with_reducible refine .cons .head ?_); (with_reducible refine .cons (.tail .head) ?_); (with_reducible refine .cons (.tail .head) ?_); (with_reducible refine .cons (.tail .head) ?_); (with_reducible refine .cons (.tail .head) ?_); (with_reducible refine .cons (.tail .head) ?_); (with_reducible refine .cons (.tail .head) ?_); (with_reducible refine .cons (.tail .head) ?_); exact .nil))
        intro q hq
        simp at hq ⊢
        rcases hq with rfl | rfl | rfl
        · exact .inl rfl
        · exact .inr (.inl rfl)
        · exact .inr (.inr (.inr rfl))
      · obtain rfl : i = 40 := by omega
        (refine hc_seq ?_; refine Zw rfl rfl rfl rfl rfl ?_; refine Zc rfl rfl rfl rfl rfl rfl rfl ?_; refine Zt ?_; refine hc_condF rfl ?_; refine hc_exit ?_; (iterate 2 (refine hq_exit_then ?_)))
        exact hq_cut v2 trivial (.cons rfl (.cons rfl (.cons rfl (.cons rfl .nil)))) (fun _ h => by (refine St.sub ?_ h; (with_reducible refine .cons .head ?_); (with_reducible refine .cons (.tail .head) ?_); (with_reducible refine .cons (.tail .head) ?_); (with_reducible refine .cons (.tail .head) ?_); (with_reducible refine .cons (.tail .head) ?_); (with_reducible refine .cons (.tail .head) ?_); (with_reducible refine .cons (.tail .head) ?_); exact .nil))
    · rintro v2 _
      refine hq_st (C' := St w F [Holds entE [(.slice a xs.length c, Seq (fun _ => enM m) xs.length), (v1, Seq (fun _ => enM m) (xs.length + 1)), (v2, Seq (fun _ => enM m) (xs.length + 41))], RowV slE 28 v3 (es.map (·.1)), Holds entE (bkE es), Blk p (.cells #[vL, vN, v3] 67 (0, 0)), RowV slE 22 vL (ents.map (·.1)), RowV intE 3 vN (ents.map fun q => (q.2 : Int)), Holds byteE (bkH ents)]) (fun _ h => by have h2 := h.pool_holds; simp only [List.map_cons, List.map_nil] at h2; exact h2) ?_
      refine hq_know (fun _ h => And.intro (h.hold_shape (v := v1) (xs := Seq (fun _ => enM m) (xs.length + 1)) .head (.tail _ (.head _))) (h.hold_shape (v := v2) (xs := Seq (fun _ => enM m) (xs.length + 41)) .head (.tail _ (.tail _ (.head _))))) ?_
      simp only [Seq.len]
      rintro ⟨⟨a1, c1, rfl, _⟩, ⟨a2, c2, rfl, _⟩⟩
      (refine hq_exit_block ?_; refine hq_then ?_; refine hc_lex ?_; (iterate 2 (refine Zm rfl rfl rfl rfl rfl ?_)); refine hx_plain rfl ?_; refine h_nilCheck rfl rfl rfl rfl ?_; refine Zf rfl rfl rfl rfl rfl ?_; refine hx_plain rfl ?_; refine h_load rfl rfl UC.out rfl (.tail (.tail (.tail .head))) rfl rfl rfl ?_; (iterate 3 (refine Zm rfl rfl rfl rfl rfl ?_)); refine hx_plain rfl ?_; (refine h_buildSlice rfl rfl rfl UC.out IC.size IC.zero rfl rfl (by intro v hv; simp at hv; first | (subst hv; rfl) | (rcases hv with rfl | rfl <;> rfl) | (rcases hv with rfl | rfl | rfl <;> rfl)) (by omega) rfl rfl (fun _ => ?_)); refine hx_plain rfl ?_)
      refine h_appendR (m := 3) (E := slE) (T := 28) (xs := es.map (·.1)) (ys := [⟨a, xs.length, c⟩, ⟨a1, xs.length + 1, c1⟩, ⟨a2, xs.length + 41, c2⟩]) rfl rfl rfl rfl rfl UC.out IC.out rfl (.cons (.tail (.tail .head)) (.cons .head .nil)) rfl rfl (flat_row slE _) (by unfold maxLen; omega) (by omega) rfl rfl (fun gL cL => ?_)
      (refine hx_plain rfl ?_; refine h_nilCheck rfl rfl rfl rfl ?_; refine Zf rfl rfl rfl rfl rfl ?_; refine hx_plain rfl ?_; refine h_store1 rfl rfl rfl rfl rfl rfl IC.size (.tail (.tail (.tail (.tail .head)))) rfl rfl rfl ?_; refine hx_nil ?_)
      refine hq_ret0 (.inl rfl) rfl ⟨rfl, .slice (some ⟨gL, 0, none⟩) ((es.map (·.1) : List SlV) ++ ([⟨a, xs.length, c⟩, ⟨a1, xs.length + 1, c1⟩, ⟨a2, xs.length + 41, c2⟩] : List SlV)).length cL, es ++ [(⟨a, xs.length, c⟩, xs.length), (⟨a1, xs.length + 1, c1⟩, xs.length + 1), (⟨a2, xs.length + 41, c2⟩, xs.length + 41)], by simp, ?_, rfl⟩ (fun x h => ?_)
      · intro q hq
        rcases List.mem_append.1 hq with hq | hq
        · exact .inl hq
        · right
          simp at hq
          rcases hq with rfl | rfl | rfl <;> (dsimp only; omega)
      have h5 := (show St w F [Row slE 28 gL cL ((es.map (·.1) : List SlV) ++ ([⟨a, xs.length, c⟩, ⟨a1, xs.length + 1, c1⟩, ⟨a2, xs.length + 41, c2⟩] : List SlV)), Blk p (.cells #[vL, vN, .slice (some ⟨gL, 0, none⟩) ((es.map (·.1) : List SlV) ++ ([⟨a, xs.length, c⟩, ⟨a1, xs.length + 1, c1⟩, ⟨a2, xs.length + 41, c2⟩] : List SlV)).length cL] 67 (0, 0)), RowV slE 22 vL (ents.map (·.1)), RowV intE 3 vN (ents.map fun q => (q.2 : Int)), Holds byteE (bkH ents), Holds entE (bkE es), Holds entE [(.slice a xs.length c, Seq (fun _ => enM m) xs.length), (.slice a1 (xs.length + 1) c1, Seq (fun _ => enM m) (xs.length + 1)), (.slice a2 (xs.length + 41) c2, Seq (fun _ => enM m) (xs.length + 41))]] x by (refine St.sub ?_ h; (with_reducible refine .cons (.tail .head) ?_); (with_reducible refine .cons .head ?_); (with_reducible refine .cons (.tail (.tail (.tail .head))) ?_); (with_reducible refine .cons (.tail (.tail (.tail .head))) ?_); (with_reducible refine .cons (.tail (.tail (.tail .head))) ?_); (with_reducible refine .cons (.tail (.tail .head)) ?_); (with_reducible refine .cons (.tail .head) ?_); exact .nil)).rowV_mk
      have h7 := (h5.pulls (.cons (.tail (.tail (.tail (.tail (.tail .head))))) (.cons (.tail (.tail (.tail (.tail (.tail .head))))) .nil))).holds_join
      have h8 : bkE (es ++ [(⟨a, xs.length, c⟩, xs.length), (⟨a1, xs.length + 1, c1⟩, xs.length + 1), (⟨a2, xs.length + 41, c2⟩, xs.length + 41)]) = bkE es ++ [(.slice a xs.length c, Seq (fun _ => enM m) xs.length), (.slice a1 (xs.length + 1) c1, Seq (fun _ => enM m) (xs.length + 1)), (.slice a2 (xs.length + 41) c2, Seq (fun _ => enM m) (xs.length + 41))] := by
        rw [bkE_add _ _ _ _ h3, ← hm]
        rfl
      rw [← h8] at h7
      have h9 := BkE_shut (R := [Blk p _, RowV slE 22 vL _, RowV intE 3 vN _, Holds byteE (bkH ents)]) (es := es ++ [(⟨a, xs.length, c⟩, xs.length), (⟨a1, xs.length + 1, c1⟩, xs.length + 1), (⟨a2, xs.length + 41, c2⟩, xs.length + 41)]) (by rw [List.map_append]; exact h7.pulls (.cons (.tail .head) (.cons .head .nil)))
      exact (BkO_shut (R := [BkE _ _]) (h9.pulls (.cons (.tail .head) (.cons (.tail .head) (.cons (.tail .head) (.cons (.tail .head) .nil))))))
end Go.Proofs.YtfolhmlldoepfaaGreatDoor
namespace Go.Proofs.YtfolhmlldoepfaaGreatDoor
open Go Go.Proofs Go.RowKit
set_option maxRecDepth 4000
theorem h_holdLoadN {X : Type} {P : Program} {n : Nat} {ds : List Deferred} {ops : Array Oper} {ev wk : Nat → Bool} {K : Env → (World → Prop) → Prop} {r : List Oper} {o : Oper} {k : Nat} {e : Env} {w0 : World} {F0 : Nat → Prop} {L L' : List Asn} {E : Elem X} {ents : List (Value × List X)} {t g off i len cap : Nat} {xs : List X} {x : Operand} {d : TypeDesc} {y : X} {cs : Array Value} (ho : o.op = .load t x) (hp : Pull L (Holds E ents) L') (hm : (.slice (some ⟨g, off, none⟩) len cap, xs) ∈ ents) (hx : e.op x = some (.pointer (some ⟨g, off + i * E.sz, none⟩))) (hu : P.underlying t = some d) (hna : aggD d = true) (hs : SizeOf P t E.sz)
    (hi : xs[i]? = some y) (hcs : (E.enc y).toArray = cs) {dd : Nat} (hdst : o.dst = some dd) (hd : okD n (some dd) = true) (h : HX P n ds ops ev wk K r (k + 1) ((dd, .agg cs) :: e) (St w0 F0 L)) : HX1 P n ds ops ev wk K o r k e (St w0 F0 L) :=
  hx1_read (by rw [ho]; rfl) (by rw [ho]; rfl) hdst hd (fun a w ha hC => by
    obtain ⟨a0, c0, e1, _, _, h4⟩ := hC.rdHolds hp hm
    injection e1 with e1 _ _
    rcases h4 with h4 | ⟨g', off', e2, hcell⟩
    · rw [h4] at hi; cases hi
    · rw [← e1] at e2
      injection e2 with e2
      injection e2 with e2 e3
      subst e2 e3
      have hc : ∀ j v, (E.enc y)[j]? = some v → w.cell? ((⟨g, off + i * E.sz, none⟩ : Addr).add j) = some v := fun j v hj => by
        have e1 : (⟨g, off + i * E.sz, none⟩ : Addr).add j = ⟨g, off + i * E.sz + j, none⟩ := by
          unfold Addr.add
          split
          · rename_i h0; rw [h0]; rfl
          · rfl
        rw [e1]
        exact hcell i y hi j v hj
      subst hcs
      simp [execOp, ho, ha.eval hx, run_loadN hu hna hs (E.len y) hc]) h
theorem bkE_mem {es : List (SlV × Nat)} {i : Nat} {q : SlV × Nat} (h : es[i]? = some q) : (q.1.v, Seq (fun _ => enM (i / 3)) q.2) ∈ bkE es := by
  refine List.mem_map.2 ⟨(q, i), ?_, rfl⟩
  exact List.mem_iff_getElem?.2 ⟨i, by rw [List.getElem?_zipIdx, h]; simp⟩
set_option maxHeartbeats 4000000 in
theorem stand_spec (p : Nat) (v3 : Value) (ents es : List (SlV × Nat)) (hl : es.length ≤ 1099511627776) (hB : ∀ q ∈ es, q.2 ≤ 2000) :
    Spec Tryz.prog 37 [.pointer (some ⟨p, 0, none⟩)] [BkO p v3 ents, BkE v3 es] (fun u M => u = .bool true ∧ M = []) := by
  refine spec_of Tryz.func37 rfl rfl (Nat.le_of_ble_eq_true rfl) (fun w F => ?_)
  refine hc_open .head BkO_open ?_
  rintro ⟨vL, vN⟩
  dsimp only
  refine hc_open (.tail (.tail (.tail (.tail .head)))) BkE_open ?_
  rintro ⟨⟩
  have hlen : (es.map (·.1)).length = es.length := List.length_map _
  (refine Zx rfl rfl rfl rfl rfl ?_; refine hc_seq ?_; refine Zx rfl rfl rfl rfl rfl ?_; refine hc_block ?_)
  refine hc_cut (id := 0) (Y := Unit) (fun _ => []) (fun _ => []) (fun _ => True) ?_ ?_
  · refine hc_loop (X := Nat) (fun i => [(0, .pointer (some ⟨p, 0, none⟩)), (3, .int .i64 (i : Int))]) (fun i => [RowV slE 28 v3 (es.map (·.1)), Holds entE (bkE es), Blk p (.cells #[vL, vN, v3] 67 (0, 0)), RowV slE 22 vL (ents.map (·.1)), RowV intE 3 vN (ents.map fun q => (q.2 : Int)), Holds byteE (bkH ents)]) (fun i => i ≤ es.length) (fun i => es.length - i) 0 (.cons rfl (.cons rfl .nil)) (Nat.zero_le _) (fun _ h => h) ?_
    intro i hi
    by_cases hlt : i < es.length
    · refine hc_rowV .head ?_ ?_
      · intro _ e1
        have := congrArg List.length e1
        rw [hlen] at this
        have h0 : es.length = 0 := this
        omega
      rintro gL cL rfl
      obtain ⟨⟨s, n⟩, hq⟩ : ∃ q, es[i]? = some q := ⟨_, List.getElem?_eq_getElem hlt⟩
      have e1 : (es.map (·.1))[((i : Nat) : Int).toNat]? = some s := by rw [List.getElem?_map]; show (es[i]?).map _ = _; rw [hq]; rfl
      have hm := bkE_mem hq
      have hnb := hB _ (List.mem_iff_getElem?.2 ⟨i, hq⟩)
      dsimp only at hnb
      dsimp only at hm
      refine hc_know (fun _ h => h.hold_shape (.tail .head) hm) ?_
      rw [Seq.len]
      unfold maxLen
      rintro ⟨a, c, hs, hc1, hc2, ha⟩
      obtain ⟨sa, sl, sc⟩ := s
      injection hs with hs1 hs2 hs3
      dsimp only at hs1 hs2 hs3
      subst hs1 hs2 hs3
      rw [hlen]
      refine hc_st (C' := St w F [Row slE 28 gL cL (es.map (·.1)), Blk p (.cells #[vL, vN, .slice (some ⟨gL, 0, none⟩) es.length cL] 67 (0, 0)), RowV slE 22 vL (ents.map (·.1)), RowV intE 3 vN (ents.map fun q => (q.2 : Int)), Holds byteE (bkH ents), Holds entE (bkE es)]) (fun _ h => by (refine St.sub ?_ h; (with_reducible refine .cons .head ?_); (with_reducible refine .cons (.tail .head) ?_); (with_reducible refine .cons (.tail .head) ?_); (with_reducible refine .cons (.tail .head) ?_); (with_reducible refine .cons (.tail .head) ?_); (with_reducible refine .cons .head ?_); exact .nil)) ?_
      (refine hc_seq ?_; refine Zw rfl rfl rfl rfl rfl ?_; refine Zm rfl rfl rfl rfl rfl ?_; refine hx_plain rfl ?_; refine h_nilCheck rfl rfl rfl rfl ?_; refine Zf rfl rfl rfl rfl rfl ?_; refine hx_plain rfl ?_; refine h_load rfl rfl UC.out rfl (.tail .head) rfl rfl rfl ?_; refine hx_plain rfl ?_; refine h_len_slice rfl rfl rfl UC.out rfl rfl rfl ?_; refine Zc rfl rfl rfl rfl rfl rfl rfl ?_; refine Zt ?_; refine hc_condDT rfl (by first | omega | (dsimp only; omega)) ?_; refine hc_skip ?_; refine hq_then ?_; refine hc_seq ?_; refine hc_block ?_; refine Zx rfl rfl rfl rfl rfl ?_; refine hc_block ?_)
      refine hc_cut (id := 2) (Y := Unit) (fun _ => [(0, .pointer (some ⟨p, 0, none⟩)), (3, .int .i64 (i : Int))]) (fun _ => [Row slE 28 gL cL (es.map (·.1)), Blk p (.cells #[vL, vN, .slice (some ⟨gL, 0, none⟩) es.length cL] 67 (0, 0)), RowV slE 22 vL (ents.map (·.1)), RowV intE 3 vN (ents.map fun q => (q.2 : Int)), Holds byteE (bkH ents), Holds entE (bkE es)]) (fun _ => True) ?_ ?_
      · refine hc_loop (X := Nat) (fun j => [(0, .pointer (some ⟨p, 0, none⟩)), (3, .int .i64 (i : Int)), (4, .int .i64 (j : Int))]) (fun _ => [Row slE 28 gL cL (es.map (·.1)), Blk p (.cells #[vL, vN, .slice (some ⟨gL, 0, none⟩) es.length cL] 67 (0, 0)), RowV slE 22 vL (ents.map (·.1)), RowV intE 3 vN (ents.map fun q => (q.2 : Int)), Holds byteE (bkH ents), Holds entE (bkE es)]) (fun j => j ≤ sl) (fun j => sl - j) 0 (.cons rfl (.cons rfl (.cons rfl .nil))) (Nat.zero_le _) (fun _ h => h) ?_
        intro j hj
        by_cases hjl : j < sl
        · obtain ⟨g, off, rfl⟩ := ha.resolve_left (by
            intro e
            have := congrArg List.length e
            rw [Seq.len] at this
            have h0 : sl = 0 := this
            omega)
          have hjm : (Seq (fun _ => enM (i / 3)) sl)[j]? = some (enM (i / 3)) := Seq.get hjl
          refine hc_seq ?_
          refine hc_seq ?_
          refine hc_lex ?_
          ((iterate 2 (refine Zm rfl rfl rfl rfl rfl ?_)); refine hx_plain rfl ?_; refine h_nilCheck rfl rfl rfl rfl ?_; refine Zf rfl rfl rfl rfl rfl ?_; refine hx_plain rfl ?_; refine h_load rfl rfl UC.out rfl (.tail .head) rfl rfl rfl ?_; refine Zm rfl rfl rfl rfl rfl ?_; refine hx_plain rfl ?_; refine h_rowAddr rfl rfl rfl UC.out IC.size (by first | omega | (dsimp only; omega)) (by first | omega | (dsimp only; omega)) rfl rfl ?_; refine hx_plain rfl ?_; refine h_rowLoad1 rfl .head rfl UC.out rfl (by with_reducible assumption) rfl rfl rfl ?_; refine hx_plain rfl ?_; refine h_len_slice rfl rfl rfl UC.out rfl rfl rfl ?_; refine Zc rfl rfl rfl rfl rfl rfl rfl ?_; refine Zt ?_)
          refine hc_condDT rfl (by first | omega | (dsimp only; omega)) ?_
          refine hc_skip ?_
          refine hq_then ?_
          refine hc_seq ?_
          refine hc_block ?_
          refine hc_seq ?_
          refine hc_drawE (D := fun x => St w F [Row slE 28 gL cL (es.map (·.1)), Blk p (.cells #[vL, vN, .slice (some ⟨gL, 0, none⟩) es.length cL] 67 (0, 0)), RowV slE 22 vL (ents.map (·.1)), RowV intE 3 vN (ents.map fun q => (q.2 : Int)), Holds byteE (bkH ents), Holds entE (bkE es)] x) (fun i => Nat.beq i 12) [0, 1, 2, 3, 4, 5, 6, 7, 8, 9, 10, 11] [12, 13] (by kernel_rfl) (by kernel_rfl) rfl (fun _ h => h) rfl ?_
          (refine Zm rfl rfl rfl rfl rfl ?_; refine hx_plain rfl ?_; refine h_nilCheck rfl rfl rfl rfl ?_; refine Zf rfl rfl rfl rfl rfl ?_; refine hx_plain rfl ?_; refine h_load rfl rfl UC.out rfl (.tail .head) rfl rfl rfl ?_; refine Zm rfl rfl rfl rfl rfl ?_; refine hx_plain rfl ?_; refine h_rowAddr rfl rfl rfl UC.out IC.size (by first | omega | (dsimp only; omega)) (by first | omega | (dsimp only; omega)) rfl rfl ?_; refine hx_plain rfl ?_; refine h_rowLoad1 rfl .head rfl UC.out rfl (by with_reducible assumption) rfl rfl rfl ?_; refine Zm rfl rfl rfl rfl rfl ?_; refine hx_plain rfl ?_; refine h_indexAddr rfl rfl rfl UC.out IC.size (by first | omega | (dsimp only; omega)) (by first | omega | (dsimp only; omega)) rfl rfl ?_; refine hx_plain rfl ?_)
          refine h_holdLoadN (i := j) rfl (.tail (.tail (.tail (.tail (.tail .head))))) hm rfl UC.out rfl IC.size hjm rfl rfl rfl ?_
          (refine Zm rfl rfl rfl rfl rfl ?_; refine hx_plain rfl ?_; refine h_quoI rfl rfl rfl (by first | omega | (dsimp only; omega)) rfl rfl ?_; refine hx_nil ?_)
          rw [show (i : Int) / 3 = ((i / 3 : Nat) : Int) by omega]
          refine hd_callRd rfl rfl rfl rfl rfl rfl rfl rfl EC.out (fun w' h => (entry_spec (i / 3) (by omega)).reads _ w' h) (fun _ h => h) ?_
          refine hd_end _ rfl ?_
          (refine hx_plain rfl ?_)
          refine h_neqEnt rfl rfl rfl rfl rfl ?_
          (refine hx_nil ?_)
          refine hd_nil ?_
          (refine hq_then ?_; refine hc_condF rfl ?_; refine hc_skip ?_; refine hq_norm_block ?_; refine hq_then ?_; refine hc_lex ?_; refine Zm rfl rfl rfl rfl rfl ?_; refine hx_plain rfl ?_; refine h_arithI rfl rfl rfl rfl (by first | omega | (dsimp only; omega)) rfl rfl ?_; refine Za rfl rfl rfl rfl rfl ?_; refine hx_nil ?_)
          exact hq_round (j + 1) (by omega) (by omega) (.cons rfl (.cons rfl (.cons rfl .nil))) (fun _ h => h)
        · (refine hc_seq ?_; refine Zw rfl rfl rfl rfl rfl ?_; refine Zm rfl rfl rfl rfl rfl ?_; refine hx_plain rfl ?_; refine h_nilCheck rfl rfl rfl rfl ?_; refine Zf rfl rfl rfl rfl rfl ?_; refine hx_plain rfl ?_; refine h_load rfl rfl UC.out rfl (.tail .head) rfl rfl rfl ?_; refine Zm rfl rfl rfl rfl rfl ?_; refine hx_plain rfl ?_; refine h_rowAddr rfl rfl rfl UC.out IC.size (by first | omega | (dsimp only; omega)) (by first | omega | (dsimp only; omega)) rfl rfl ?_; refine hx_plain rfl ?_; refine h_rowLoad1 rfl .head rfl UC.out rfl (by with_reducible assumption) rfl rfl rfl ?_; refine hx_plain rfl ?_; refine h_len_slice rfl rfl rfl UC.out rfl rfl rfl ?_; refine Zc rfl rfl rfl rfl rfl rfl rfl ?_; refine Zt ?_; refine hc_condDF rfl (by first | omega | (dsimp only; omega)) ?_; refine hc_exit ?_; (iterate 2 (refine hq_exit_then ?_)))
          exact hq_cut () trivial (.cons rfl (.cons rfl .nil)) (fun _ h => h)
      · rintro ⟨⟩ _
        (refine hq_exit_block ?_; refine hq_norm_block ?_; refine hq_then ?_; refine hc_lex ?_; refine Zm rfl rfl rfl rfl rfl ?_; refine hx_plain rfl ?_; refine h_arithI rfl rfl rfl rfl (by first | omega | (dsimp only; omega)) rfl rfl ?_; refine Za rfl rfl rfl rfl rfl ?_; refine hx_nil ?_)
        refine hq_round (i + 1) (by omega) (by omega) (.cons rfl (.cons rfl .nil)) (fun _ h => ?_)
        have h1 := h.rowV_mk
        rw [hlen] at h1
        exact h1.sub (.cons .head (.cons (.tail (.tail (.tail (.tail .head)))) (.cons .head (.cons .head (.cons .head (.cons .head .nil))))))
    · (refine hc_seq ?_; refine Zw rfl rfl rfl rfl rfl ?_; refine Zm rfl rfl rfl rfl rfl ?_; refine hx_plain rfl ?_; refine h_nilCheck rfl rfl rfl rfl ?_; refine Zf rfl rfl rfl rfl rfl ?_; refine hx_plain rfl ?_; refine h_load rfl rfl UC.out rfl (.tail (.tail .head)) rfl rfl rfl ?_; refine hx_plain rfl ?_)
      refine h_lenV rfl rfl .head rfl UC.out rfl rfl rfl ?_
      rw [hlen]
      (refine Zc rfl rfl rfl rfl rfl rfl rfl ?_; refine Zt ?_; refine hc_condDF rfl (by first | omega | (dsimp only; omega)) ?_; refine hc_exit ?_; (iterate 2 (refine hq_exit_then ?_)))
      exact hq_cut () trivial .nil (fun _ h => h.emp)
  · rintro ⟨⟩ _
    (refine hq_exit_block ?_; refine hq_then ?_; refine Zx rfl rfl rfl rfl rfl ?_; refine hc_ret ?_)
    exact hq_ret1 (.inr rfl) rfl rfl ⟨rfl, rfl⟩ (fun _ h => h)
end Go.Proofs.YtfolhmlldoepfaaGreatDoor
namespace Go.Proofs.YtfolhmlldoepfaaGreatDoor
open Go Go.Proofs Go.RowKit
set_option maxRecDepth 4000
theorem St.blk_row {X : Type} {E : Elem X} {T b : Nat} {cs : Array Value} {xs : List X} {w w0 : World} {F0 : Nat → Prop} {L : List Asn} (h : St w0 F0 (Blk b (.cells cs T (0, 0)) :: L) w) (hs : cs.size = xs.length * E.sz) (hl : xs.length ≤ maxLen) (hr : ∀ i x, xs[i]? = some x → ∀ j v, (E.enc x)[j]? = some v → cs[i * E.sz + j]? = some v) : St w0 F0 (Row E T b xs.length xs :: L) w :=
  h.map fun F hp => by
    obtain ⟨h1, h2⟩ := hp
    exact ⟨h1, cs, h2, Nat.le_refl _, hl, hs, hr⟩
def reqE : Elem ReqV where
  sz := 13
  pos := by decide
  enc r := [.int .i64 r.client, .int .i64 r.seq, .int .i64 r.ack, .int .i64 r.epoch, .int .i64 r.op, .int .i64 r.id, .int .i64 r.id2, .int .i64 r.off, .int .i64 r.len, .string r.path, .string r.name, .string r.name2, .slice r.dv.a r.dv.len r.dv.cap]
  len _ := rfl
  one q v hv := by
    simp at hv
    rcases hv with rfl | rfl | rfl | rfl | rfl | rfl | rfl | rfl | rfl | rfl | rfl | rfl | rfl <;> rfl
set_option maxHeartbeats 16000000 in
theorem requests_spec {w1 : World} (hk : Known w1) (p : Nat) (v3 : Value) (ents : List (SlV × Nat)) (r : ReqV) {ds : List Int} (hd : Rd byteE w1 r.dv.v ds) (bd : Byts ds) (hds : ds.length ≤ 1048576) (hW : BkW ents) (hn : ents.length + 18 ≤ 1099511627776) :
    SpecB Tryz.prog w1 34 [.pointer (some ⟨p, 0, none⟩), .agg r.cs] [BkO p v3 ents] (fun u M => u = .bool true ∧ ∃ ents', ents'.length ≤ ents.length + 18 ∧ BkW ents' ∧ M = [BkO p v3 ents']) := by
  refine specB_of Tryz.func34 rfl rfl (Nat.le_of_ble_eq_true rfl) (fun w F hB hF => ?_)
  have hkn : ∀ x L, St w F L x → Known x := fun x L h => hk.but (h.butB hB hF)
  obtain ⟨r0, hr0⟩ : ∃ r0, r0 = r := ⟨_, rfl⟩
  rw [← hr0] at hd
  have hdl : ds.length = r0.dv.len := rd_lenS hd
  have hrd : ∀ x L, St w F L x → Rd byteE x r0.dv.v ds := fun x L h => hd.butF (h.butB hB hF) (fun _ h => h.elim)
  obtain ⟨client, seq, ack, epoch, op, id, id2, off, len, path, name, name2, ⟨da, dn, dc⟩⟩ := r
  dsimp only [ReqV.cs, SlV.v]
  have hdec := decQ_enc (r := r0) (ds := ds) hdl
  have hbq := encReq_byts (r := r0) bd
  have hnil : r0.chk ≠ 0 → encReq r0 ds = [] := fun h => by unfold encReq; rw [if_neg h]
  have hE : ∀ x L, St w F L x → Makes Tryz.prog 23 [Value.agg #[.int .i64 client, .int .i64 seq, .int .i64 ack, .int .i64 epoch, .int .i64 op, .int .i64 id, .int .i64 id2, .int .i64 off, .int .i64 len, .string path, .string name, .string name2, .slice da dn dc]] x (EncP (encReq r0 ds) r0.chk) := fun x L h => by
    have := encQ_makes (hkn x L h) r0 (hrd x L h)
    rw [hr0] at this ⊢
    exact this
  obtain ⟨eq, heq⟩ : ∃ l, encReq r0 ds = l := ⟨_, rfl⟩
  obtain ⟨ck, hck⟩ : ∃ c, r0.chk = c := ⟨_, rfl⟩
  rw [heq] at hE hbq
  rw [hck] at hE
  rw [heq, hck] at hdec hnil
  (refine Zl rfl ?_; (refine h_box rfl rfl rfl rfl rfl rfl (fun _ => ?_)); refine Zn rfl rfl rfl rfl rfl ?_; refine Zl rfl ?_)
  rename_i bq
  refine h_loadP (cs' := #[.int .i64 client, .int .i64 seq, .int .i64 ack, .int .i64 epoch, .int .i64 op, .int .i64 id, .int .i64 id2, .int .i64 off, .int .i64 len, .string path, .string name, .string name2, .slice da dn dc]) rfl rfl UC.out rfl IC.size .head rfl (by kernel_rfl) rfl rfl ?_
  (refine hx_plain rfl ?_)
  refine h_callW (post := EncP eq ck) rfl rfl rfl rfl rfl rfl rfl rfl EC.out (fun w' h => hE w' _ h) ?_
  rintro u M ⟨a1, c1, rfl, rfl⟩
  (refine Zm rfl rfl rfl rfl rfl ?_; (iterate 2 (refine hx_plain rfl ?_; refine h_extract rfl rfl rfl rfl rfl ?_)); refine Za rfl rfl rfl rfl rfl ?_; refine Zn rfl rfl rfl rfl rfl ?_; refine Zl rfl ?_)
  refine h_loadP (cs' := #[.int .i64 client, .int .i64 seq, .int .i64 ack, .int .i64 epoch, .int .i64 op, .int .i64 id, .int .i64 id2, .int .i64 off, .int .i64 len, .string path, .string name, .string name2, .slice da dn dc]) rfl rfl UC.out rfl IC.size (.tail .head) rfl (by kernel_rfl) rfl rfl ?_
  (refine hx_plain rfl ?_)
  refine h_callW (post := EncP eq ck) rfl rfl rfl rfl rfl rfl rfl rfl EC.out (fun w' h => hE w' _ h) ?_
  rintro u M ⟨a2, c2, rfl, rfl⟩
  (refine Zm rfl rfl rfl rfl rfl ?_; (iterate 2 (refine hx_plain rfl ?_; refine h_extract rfl rfl rfl rfl rfl ?_)); refine Za rfl rfl rfl rfl rfl ?_; refine Zn rfl rfl rfl rfl rfl ?_; refine hc_seq ?_; refine Zw rfl rfl rfl rfl rfl ?_; refine Zm rfl rfl rfl rfl rfl ?_; refine Zc rfl rfl rfl rfl rfl rfl rfl ?_; refine Zm rfl rfl rfl rfl rfl ?_; refine hx_gF rfl rfl rfl (by omega) ?_; refine hx_yes rfl rfl rfl ?_; refine h_move rfl rfl rfl rfl ?_; refine hx_yes rfl rfl rfl ?_)
  refine h_callR rfl rfl rfl rfl rfl rfl EC.out ((lnum_spec ck).reads _) ?_
  by_cases hc0 : ck = 0
  case neg =>
    have hnl := hnil hc0
    subst hnl
    (refine hx_yes rfl rfl rfl ?_; refine h_cmp rfl rfl rfl rfl rfl rfl ?_; refine Zp rfl rfl rfl rfl rfl rfl ?_; refine Zt ?_; refine hc_condDT rfl (by omega) ?_; refine Zw rfl rfl rfl rfl rfl ?_; refine Zm rfl rfl rfl rfl rfl ?_; refine Zc rfl rfl rfl rfl rfl rfl rfl ?_; refine Zm rfl rfl rfl rfl rfl ?_; refine hx_gT rfl rfl rfl (by omega) ?_; refine hx_yes rfl rfl rfl ?_; refine h_move rfl rfl rfl rfl ?_; refine hx_yes rfl rfl rfl ?_; refine h_len_slice rfl rfl rfl UC.out rfl rfl rfl ?_; refine hx_yes rfl rfl rfl ?_; refine h_cmp rfl rfl rfl rfl rfl rfl ?_; refine Zq rfl rfl rfl rfl rfl rfl ?_; refine Zm rfl rfl rfl rfl rfl ?_; refine hx_yes rfl rfl rfl ?_; refine h_move rfl rfl rfl rfl ?_; refine hx_yes rfl rfl rfl ?_; refine h_len_slice rfl rfl rfl UC.out rfl rfl rfl ?_; refine hx_yes rfl rfl rfl ?_; refine h_cmp rfl rfl rfl rfl rfl rfl ?_; refine Zq rfl rfl rfl rfl rfl rfl ?_; refine Zn rfl rfl rfl rfl rfl ?_; refine hc_ret ?_; refine hq_ret_then ?_)
    exact hq_ret1 (.inr rfl) rfl rfl ⟨rfl, ents, by omega, hW, rfl⟩ (fun _ h => by (refine St.sub ?_ h; refine .cons (.tail (.tail (.tail .head))) ?_; exact .nil))
  subst hc0
  obtain ⟨d1, d2, _, _⟩ := hdec rfl
  have h1400 : eq.length ≤ 1400 := d2
  (refine hx_yes rfl rfl rfl ?_; refine h_cmp rfl rfl rfl rfl rfl rfl ?_; refine Zp rfl rfl rfl rfl rfl rfl ?_; refine Zt ?_; refine hc_condF rfl ?_; refine hc_skip ?_; refine hq_then ?_; refine Zw rfl rfl rfl rfl rfl ?_; refine hx_plain rfl ?_)
  refine h_callW (post := fun u M => M = [RowV byteE 5 u eq]) rfl rfl rfl rfl rfl rfl rfl rfl EC.out (fun w' h => bytes_makes (h.rdRowV (xs := eq) (.tail .head)) (by omega)) ?_
  rintro wv M rfl
  (refine Zn rfl rfl rfl rfl rfl ?_; refine Zx rfl rfl rfl rfl rfl ?_; refine hc_seq ?_; refine Zx rfl rfl rfl rfl rfl ?_; refine hc_block ?_)
  refine hc_cut (id := 0) (Y := Value × List SlV) (fun y => [(0, .pointer (some ⟨p, 0, none⟩)), (3, .pointer (some ⟨bq, 0, none⟩)), (5, .slice a1 eq.length c1), (7, .slice a2 eq.length c2), (9, wv), (10, y.1)]) (fun y => [BkO p v3 ents, Blk bq (.cells #[.int .i64 client, .int .i64 seq, .int .i64 ack, .int .i64 epoch, .int .i64 op, .int .i64 id, .int .i64 id2, .int .i64 off, .int .i64 len, .string path, .string name, .string name2, .slice da dn dc] 24 (0, 0)), RowV byteE 5 (.slice a1 eq.length c1) eq, RowV byteE 5 (.slice a2 eq.length c2) eq, RowV byteE 5 wv eq, RowV reqE 24 y.1 (y.2.map fun s => ({ r0 with dv := s } : ReqV)), All (y.2.map fun s => RowV byteE 5 s.v ds)]) (fun y => y.2.length = 4) ?_ ?_
  · refine hc_loop (X := Nat × Value × List SlV) (fun x => [(0, .pointer (some ⟨p, 0, none⟩)), (3, .pointer (some ⟨bq, 0, none⟩)), (5, .slice a1 eq.length c1), (7, .slice a2 eq.length c2), (9, wv), (10, x.2.1), (11, .int .i64 (x.1 : Int))]) (fun x => [BkO p v3 ents, Blk bq (.cells #[.int .i64 client, .int .i64 seq, .int .i64 ack, .int .i64 epoch, .int .i64 op, .int .i64 id, .int .i64 id2, .int .i64 off, .int .i64 len, .string path, .string name, .string name2, .slice da dn dc] 24 (0, 0)), RowV byteE 5 (.slice a1 eq.length c1) eq, RowV byteE 5 (.slice a2 eq.length c2) eq, RowV byteE 5 wv eq, RowV reqE 24 x.2.1 (x.2.2.map fun s => ({ r0 with dv := s } : ReqV)), All (x.2.2.map fun s => RowV byteE 5 s.v ds)]) (fun x => x.1 ≤ 4 ∧ x.2.2.length = x.1) (fun x => 4 - x.1) (0, .slice none 0 0, []) (.cons rfl (.cons rfl (.cons rfl (.cons rfl (.cons rfl (.cons rfl (.cons rfl .nil))))))) ⟨Nat.zero_le _, rfl⟩ (fun x h => ?_) ?_
    · have h1 := (show St w F [RowV byteE 5 (.slice a1 eq.length c1) eq, RowV byteE 5 (.slice a2 eq.length c2) eq, RowV byteE 5 wv eq, BkO p v3 ents, Blk bq (.cells #[.int .i64 client, .int .i64 seq, .int .i64 ack, .int .i64 epoch, .int .i64 op, .int .i64 id, .int .i64 id2, .int .i64 off, .int .i64 len, .string path, .string name, .string name2, .slice da dn dc] 24 (0, 0))] x by (refine St.sub ?_ h; refine .cons (.tail (.tail .head)) ?_; (with_reducible refine .cons (.tail .head) ?_); (with_reducible refine .cons .head ?_); refine .cons (.tail .head) ?_; (with_reducible refine .cons .head ?_); exact .nil))
      have h2 := (St.all (M := [])).2 h1
      have h3 := St.rowV_nil (E := reqE) (T := 24) h2
      exact h3.sub (.cons (.tail (.tail (.tail (.tail (.tail .head))))) (.cons (.tail (.tail (.tail (.tail (.tail .head))))) (.cons (.tail (.tail .head)) (.cons (.tail (.tail .head)) (.cons (.tail (.tail .head)) (.cons .head (.cons .head .nil)))))))
    rintro ⟨i, rs, sls⟩ ⟨hi, hsl⟩
    dsimp only at hi hsl ⊢
    by_cases hlt : i < 4
    case neg =>
      (refine hc_seq ?_; refine Zw rfl rfl rfl rfl rfl ?_; refine Zc rfl rfl rfl rfl rfl rfl rfl ?_; refine Zt ?_; refine hc_condDF rfl (by omega) ?_; refine hc_exit ?_; (iterate 2 (refine hq_exit_then ?_)))
      exact hq_cut (rs, sls) (by show sls.length = 4; omega) (.cons rfl (.cons rfl (.cons rfl (.cons rfl (.cons rfl (.cons rfl .nil)))))) (fun _ h => h)
    have hml : (sls.map fun s => ({ r0 with dv := s } : ReqV)).length = i := by rw [List.length_map]; exact hsl
    by_cases h1 : i ≤ 1
    ·
      (refine hc_seq ?_; refine Zw rfl rfl rfl rfl rfl ?_; refine Zc rfl rfl rfl rfl rfl rfl rfl ?_; refine Zt ?_; refine hc_condDT rfl (by omega) ?_; refine hc_skip ?_; refine hq_then ?_; refine hc_seq ?_; refine hc_block ?_; refine Zw rfl rfl rfl rfl rfl ?_; refine Zn rfl rfl rfl rfl rfl ?_; refine hc_seq ?_; refine Zw rfl rfl rfl rfl rfl ?_; refine Zc rfl rfl rfl rfl rfl rfl rfl ?_; refine Zt ?_; refine hc_condDF rfl (by omega) ?_; refine hc_skip ?_; refine hq_then ?_; refine Zw rfl rfl rfl rfl rfl ?_; refine hx_plain rfl ?_)
      refine h_callW (post := DecQ (decQ eq)) rfl rfl rfl rfl rfl rfl rfl rfl EC.out (fun w' h => decQ_makes (hkn _ _ h) (by first | exact h.rdRowV (.tail (.tail .head)) | exact h.rdRowV (.tail (.tail (.tail .head)))) hbq) ?_
      rw [d1]
      rintro u M ⟨a3, c3, rfl, rfl⟩
      rw [show ({ (r0.bare ds.length, ds, (0 : Int)).1 with dv := ⟨a3, ds.length, c3⟩ } : ReqV) = ⟨client, seq, ack, epoch, op, id, id2, off, len, path, name, name2, ⟨a3, ds.length, c3⟩⟩ by rw [hr0]; rfl]
      dsimp only [ReqV.cs, SlV.v]
      (refine Zm rfl rfl rfl rfl rfl ?_; (iterate 2 (refine hx_plain rfl ?_; refine h_extract rfl rfl rfl rfl rfl ?_)); refine hx_plain rfl ?_; (refine h_alloc rfl rfl IC.zero rfl rfl rfl (fun _ => ?_)); refine hx_plain rfl ?_; refine h_storeAll rfl rfl rfl rfl rfl rfl IC.size .head rfl rfl rfl (List.all_eq_true.1 rfl) ?_; refine Zn rfl rfl rfl rfl rfl ?_; refine hc_seq ?_; refine Zw rfl rfl rfl rfl rfl ?_; refine hx_plain rfl ?_)
      refine h_callR rfl rfl rfl rfl rfl rfl EC.out ((lnum_spec 0).reads _) ?_
      (refine Zc rfl rfl rfl rfl rfl rfl rfl ?_; refine Zt ?_; refine hc_condF rfl ?_; refine hc_skip ?_; refine hq_then ?_; refine hc_lex ?_; refine Zm rfl rfl rfl rfl rfl ?_; refine hx_plain rfl ?_)
      rename_i b13
      refine h_loadP (cs' := #[.int .i64 client, .int .i64 seq, .int .i64 ack, .int .i64 epoch, .int .i64 op, .int .i64 id, .int .i64 id2, .int .i64 off, .int .i64 len, .string path, .string name, .string name2, .slice a3 ds.length c3]) rfl rfl UC.out rfl IC.size (.head) rfl (by kernel_rfl) rfl rfl ?_
      (refine hx_plain rfl ?_; (refine h_buildSlice rfl rfl rfl UC.out IC.size IC.zero rfl rfl (by intro v hv; simp at hv; first | (subst hv; rfl) | (rcases hv with rfl | rfl <;> rfl) | (rcases hv with rfl | rfl | rfl <;> rfl)) (by omega) rfl rfl (fun _ => ?_)); refine hx_plain rfl ?_)
      refine h_append (m := 1) (E := reqE) (T := 24) (xs := sls.map fun s => ({ r0 with dv := s } : ReqV)) (ys := [⟨client, seq, ack, epoch, op, id, id2, off, len, path, name, name2, ⟨a3, ds.length, c3⟩⟩]) rfl rfl rfl rfl rfl UC.out IC.out rfl (.cons (.tail (.tail (.tail (.tail (.tail (.tail (.tail (.tail .head)))))))) (.cons .head .nil)) rfl (one_row reqE _) (by unfold maxLen; omega) (by omega) rfl rfl (fun v' _ => ?_)
      (refine Za rfl rfl rfl rfl rfl ?_; refine hx_nil ?_; refine hq_norm_block ?_; refine hq_then ?_; refine hc_lex ?_; refine Zm rfl rfl rfl rfl rfl ?_; refine hx_plain rfl ?_; refine h_arithI rfl rfl rfl rfl (by omega) rfl rfl ?_; refine Za rfl rfl rfl rfl rfl ?_; refine hx_nil ?_)
      refine hq_round (i + 1, v', sls ++ [⟨a3, ds.length, c3⟩]) (by show 4 - (i + 1) < 4 - i; omega) ⟨by show i + 1 ≤ 4; omega, by show (sls ++ [_]).length = i + 1; rw [List.length_append, hsl]; rfl⟩ (.cons rfl (.cons rfl (.cons rfl (.cons rfl (.cons rfl (.cons rfl (.cons rfl .nil))))))) (fun x h => ?_)
      have hm : (sls ++ [(⟨a3, ds.length, c3⟩ : SlV)]).map (fun s => ({ r0 with dv := s } : ReqV)) = (sls.map fun s => ({ r0 with dv := s } : ReqV)) ++ [⟨client, seq, ack, epoch, op, id, id2, off, len, path, name, name2, ⟨a3, ds.length, c3⟩⟩] := by rw [List.map_append]; congr 1; rw [hr0]; rfl
      have h1 := (show St w F [All (sls.map fun s => RowV byteE 5 s.v ds), RowV byteE 5 (.slice a3 ds.length c3) ds, BkO p v3 ents, Blk bq (.cells #[.int .i64 client, .int .i64 seq, .int .i64 ack, .int .i64 epoch, .int .i64 op, .int .i64 id, .int .i64 id2, .int .i64 off, .int .i64 len, .string path, .string name, .string name2, .slice da dn dc] 24 (0, 0)), RowV byteE 5 (.slice a1 eq.length c1) eq, RowV byteE 5 (.slice a2 eq.length c2) eq, RowV byteE 5 wv eq, RowV reqE 24 v' ((sls.map fun s => ({ r0 with dv := s } : ReqV)) ++ [⟨client, seq, ack, epoch, op, id, id2, off, len, path, name, name2, ⟨a3, ds.length, c3⟩⟩])] x by (refine St.sub ?_ h; (with_reducible refine .cons (.tail (.tail (.tail (.tail (.tail (.tail (.tail (.tail (.tail .head))))))))) ?_); (with_reducible refine .cons (.tail (.tail (.tail .head))) ?_); (with_reducible refine .cons (.tail (.tail (.tail .head))) ?_); (with_reducible refine .cons (.tail (.tail (.tail .head))) ?_); (with_reducible refine .cons (.tail (.tail (.tail .head))) ?_); (with_reducible refine .cons (.tail (.tail (.tail .head))) ?_); (with_reducible refine .cons (.tail (.tail (.tail .head))) ?_); (with_reducible refine .cons .head ?_); exact .nil))
      have h2 := shl_snoc h1
      show St w F [BkO p v3 ents, _, _, _, _, RowV reqE 24 v' ((sls ++ [(⟨a3, ds.length, c3⟩ : SlV)]).map (fun s => ({ r0 with dv := s } : ReqV))), All ((sls ++ [(⟨a3, ds.length, c3⟩ : SlV)]).map fun s => RowV byteE 5 s.v ds)] x
      rw [hm, List.map_append (f := fun s : SlV => RowV byteE 5 s.v ds)]
      exact h2.sub (.cons (.tail .head) (.cons (.tail .head) (.cons (.tail .head) (.cons (.tail .head) (.cons (.tail .head) (.cons (.tail .head) (.cons .head .nil)))))))
    ·
      (refine hc_seq ?_; refine Zw rfl rfl rfl rfl rfl ?_; refine Zc rfl rfl rfl rfl rfl rfl rfl ?_; refine Zt ?_; refine hc_condDT rfl (by omega) ?_; refine hc_skip ?_; refine hq_then ?_; refine hc_seq ?_; refine hc_block ?_; refine Zw rfl rfl rfl rfl rfl ?_; refine Zn rfl rfl rfl rfl rfl ?_; refine hc_seq ?_; refine Zw rfl rfl rfl rfl rfl ?_; refine Zc rfl rfl rfl rfl rfl rfl rfl ?_; refine Zt ?_; refine hc_condDT rfl (by omega) ?_; refine hc_lex ?_; refine Zm rfl rfl rfl rfl rfl ?_; refine Zn rfl rfl rfl rfl rfl ?_; refine Zw rfl rfl rfl rfl rfl ?_; refine hx_plain rfl ?_)
      refine h_callW (post := DecQ (decQ eq)) rfl rfl rfl rfl rfl rfl rfl rfl EC.out (fun w' h => decQ_makes (hkn _ _ h) (by first | exact h.rdRowV (.tail (.tail .head)) | exact h.rdRowV (.tail (.tail (.tail .head)))) hbq) ?_
      rw [d1]
      rintro u M ⟨a3, c3, rfl, rfl⟩
      rw [show ({ (r0.bare ds.length, ds, (0 : Int)).1 with dv := ⟨a3, ds.length, c3⟩ } : ReqV) = ⟨client, seq, ack, epoch, op, id, id2, off, len, path, name, name2, ⟨a3, ds.length, c3⟩⟩ by rw [hr0]; rfl]
      dsimp only [ReqV.cs, SlV.v]
      (refine Zm rfl rfl rfl rfl rfl ?_; (iterate 2 (refine hx_plain rfl ?_; refine h_extract rfl rfl rfl rfl rfl ?_)); refine hx_plain rfl ?_; (refine h_alloc rfl rfl IC.zero rfl rfl rfl (fun _ => ?_)); refine hx_plain rfl ?_; refine h_storeAll rfl rfl rfl rfl rfl rfl IC.size .head rfl rfl rfl (List.all_eq_true.1 rfl) ?_; refine Zn rfl rfl rfl rfl rfl ?_; refine hc_seq ?_; refine Zw rfl rfl rfl rfl rfl ?_; refine hx_plain rfl ?_)
      refine h_callR rfl rfl rfl rfl rfl rfl EC.out ((lnum_spec 0).reads _) ?_
      (refine Zc rfl rfl rfl rfl rfl rfl rfl ?_; refine Zt ?_; refine hc_condF rfl ?_; refine hc_skip ?_; refine hq_then ?_; refine hc_lex ?_; refine Zm rfl rfl rfl rfl rfl ?_; refine hx_plain rfl ?_)
      rename_i b13
      refine h_loadP (cs' := #[.int .i64 client, .int .i64 seq, .int .i64 ack, .int .i64 epoch, .int .i64 op, .int .i64 id, .int .i64 id2, .int .i64 off, .int .i64 len, .string path, .string name, .string name2, .slice a3 ds.length c3]) rfl rfl UC.out rfl IC.size (.head) rfl (by kernel_rfl) rfl rfl ?_
      (refine hx_plain rfl ?_; (refine h_buildSlice rfl rfl rfl UC.out IC.size IC.zero rfl rfl (by intro v hv; simp at hv; first | (subst hv; rfl) | (rcases hv with rfl | rfl <;> rfl) | (rcases hv with rfl | rfl | rfl <;> rfl)) (by omega) rfl rfl (fun _ => ?_)); refine hx_plain rfl ?_)
      refine h_append (m := 1) (E := reqE) (T := 24) (xs := sls.map fun s => ({ r0 with dv := s } : ReqV)) (ys := [⟨client, seq, ack, epoch, op, id, id2, off, len, path, name, name2, ⟨a3, ds.length, c3⟩⟩]) rfl rfl rfl rfl rfl UC.out IC.out rfl (.cons (.tail (.tail (.tail (.tail (.tail (.tail (.tail (.tail .head)))))))) (.cons .head .nil)) rfl (one_row reqE _) (by unfold maxLen; omega) (by omega) rfl rfl (fun v' _ => ?_)
      (refine Za rfl rfl rfl rfl rfl ?_; refine hx_nil ?_; refine hq_norm_block ?_; refine hq_then ?_; refine hc_lex ?_; refine Zm rfl rfl rfl rfl rfl ?_; refine hx_plain rfl ?_; refine h_arithI rfl rfl rfl rfl (by omega) rfl rfl ?_; refine Za rfl rfl rfl rfl rfl ?_; refine hx_nil ?_)
      refine hq_round (i + 1, v', sls ++ [⟨a3, ds.length, c3⟩]) (by show 4 - (i + 1) < 4 - i; omega) ⟨by show i + 1 ≤ 4; omega, by show (sls ++ [_]).length = i + 1; rw [List.length_append, hsl]; rfl⟩ (.cons rfl (.cons rfl (.cons rfl (.cons rfl (.cons rfl (.cons rfl (.cons rfl .nil))))))) (fun x h => ?_)
      have hm : (sls ++ [(⟨a3, ds.length, c3⟩ : SlV)]).map (fun s => ({ r0 with dv := s } : ReqV)) = (sls.map fun s => ({ r0 with dv := s } : ReqV)) ++ [⟨client, seq, ack, epoch, op, id, id2, off, len, path, name, name2, ⟨a3, ds.length, c3⟩⟩] := by rw [List.map_append]; congr 1; rw [hr0]; rfl
      have h1 := (show St w F [All (sls.map fun s => RowV byteE 5 s.v ds), RowV byteE 5 (.slice a3 ds.length c3) ds, BkO p v3 ents, Blk bq (.cells #[.int .i64 client, .int .i64 seq, .int .i64 ack, .int .i64 epoch, .int .i64 op, .int .i64 id, .int .i64 id2, .int .i64 off, .int .i64 len, .string path, .string name, .string name2, .slice da dn dc] 24 (0, 0)), RowV byteE 5 (.slice a1 eq.length c1) eq, RowV byteE 5 (.slice a2 eq.length c2) eq, RowV byteE 5 wv eq, RowV reqE 24 v' ((sls.map fun s => ({ r0 with dv := s } : ReqV)) ++ [⟨client, seq, ack, epoch, op, id, id2, off, len, path, name, name2, ⟨a3, ds.length, c3⟩⟩])] x by (refine St.sub ?_ h; (with_reducible refine .cons (.tail (.tail (.tail (.tail (.tail (.tail (.tail (.tail (.tail .head))))))))) ?_); (with_reducible refine .cons (.tail (.tail (.tail .head))) ?_); (with_reducible refine .cons (.tail (.tail (.tail .head))) ?_); (with_reducible refine .cons (.tail (.tail (.tail .head))) ?_); (with_reducible refine .cons (.tail (.tail (.tail .head))) ?_); (with_reducible refine .cons (.tail (.tail (.tail .head))) ?_); (with_reducible refine .cons (.tail (.tail (.tail .head))) ?_); (with_reducible refine .cons .head ?_); exact .nil))
      have h2 := shl_snoc h1
      show St w F [BkO p v3 ents, _, _, _, _, RowV reqE 24 v' ((sls ++ [(⟨a3, ds.length, c3⟩ : SlV)]).map (fun s => ({ r0 with dv := s } : ReqV))), All ((sls ++ [(⟨a3, ds.length, c3⟩ : SlV)]).map fun s => RowV byteE 5 s.v ds)] x
      rw [hm, List.map_append (f := fun s : SlV => RowV byteE 5 s.v ds)]
      exact h2.sub (.cons (.tail .head) (.cons (.tail .head) (.cons (.tail .head) (.cons (.tail .head) (.cons (.tail .head) (.cons (.tail .head) (.cons .head .nil)))))))
  rintro ⟨rs, sls⟩ hsl
  dsimp only at hsl ⊢
  (refine hq_exit_block ?_; refine hq_then ?_; refine Zw rfl rfl rfl rfl rfl ?_; (iterate 2 (refine Zm rfl rfl rfl rfl rfl ?_)); refine hx_plain rfl ?_; (refine h_buildSlice rfl rfl rfl UC.out IC.size IC.zero rfl rfl (by intro v hv; simp at hv; first | (subst hv; rfl) | (rcases hv with rfl | rfl <;> rfl) | (rcases hv with rfl | rfl | rfl <;> rfl)) (by omega) rfl rfl (fun _ => ?_)); refine Zm rfl rfl rfl rfl rfl ?_; refine hx_plain rfl ?_)
  rename_i arr
  obtain ⟨two, htwo⟩ : ∃ l : List SlV, l = [⟨a1, eq.length, c1⟩, ⟨a2, eq.length, c2⟩] := ⟨_, rfl⟩
  have h2l : two.length = 2 := by rw [htwo]; rfl
  refine hx1_conv rfl rfl (C' := St w F [BkO p v3 ents, Row slE 22 arr two.length two, RowV byteE 5 wv eq, All (two.map fun s => RowV byteE 5 s.v eq), Blk bq (.cells #[.int .i64 client, .int .i64 seq, .int .i64 ack, .int .i64 epoch, .int .i64 op, .int .i64 id, .int .i64 id2, .int .i64 off, .int .i64 len, .string path, .string name, .string name2, .slice da dn dc] 24 (0, 0)), RowV reqE 24 rs (sls.map fun s => ({ r0 with dv := s } : ReqV)), All (sls.map fun s => RowV byteE 5 s.v ds)]) (fun x h => ?_) ?_
  · have q1 := St.blk_row (E := slE) (xs := [⟨a1, eq.length, c1⟩, ⟨a2, eq.length, c2⟩]) h rfl (by show 2 ≤ maxLen; decide) (flat_row slE _)
    have q2 := (St.all (M := [RowV byteE 5 (.slice a1 eq.length c1) eq, RowV byteE 5 (.slice a2 eq.length c2) eq])).2 (q1.sub (.cons (.tail (.tail (.tail .head))) (.cons (.tail (.tail (.tail .head))) (.cons .head (.cons .head (.cons .head (.cons .head (.cons .head (.cons .head .nil)))))))))
    rw [htwo]
    exact q2.sub (.cons (.tail (.tail .head)) (.cons (.tail .head) (.cons (.tail (.tail .head)) (.cons .head (.cons .head (.cons .head (.cons .head .nil)))))))
  subst htwo
  skip
  refine h_call rfl rfl rfl rfl rfl rfl rfl rfl EC.out (.cons .head (.cons .head (.cons .head (.cons .head .nil)))) (all_spec p v3 ents arr 2 [⟨a1, eq.length, c1⟩, ⟨a2, eq.length, c2⟩] wv eq hW (by show ents.length + 6 ≤ _; omega) (by omega) (by show (2 : Nat) ≤ 1048576; decide)) ?_
  rintro u M ⟨rfl, es1, he1, hw1, rfl⟩
  have he2 : es1.length = ents.length + 6 := he1
  (refine Zn rfl rfl rfl rfl rfl ?_; refine hc_seq ?_; refine Zx rfl rfl rfl rfl rfl ?_; refine hc_block ?_)
  refine hc_cut (id := 2) (Y := List (SlV × Nat)) (fun _ => [(15, .bool true)]) (fun y => [BkO p v3 y]) (fun y => y.length ≤ ents.length + 18 ∧ BkW y) ?_ ?_
  · refine hc_loop (X := Nat × List (SlV × Nat)) (fun x => [(0, .pointer (some ⟨p, 0, none⟩)), (3, .pointer (some ⟨bq, 0, none⟩)), (10, rs), (15, .bool true), (16, .int .i64 (x.1 : Int))]) (fun x => [BkO p v3 x.2, Blk bq (.cells #[.int .i64 client, .int .i64 seq, .int .i64 ack, .int .i64 epoch, .int .i64 op, .int .i64 id, .int .i64 id2, .int .i64 off, .int .i64 len, .string path, .string name, .string name2, .slice da dn dc] 24 (0, 0)), RowV reqE 24 rs (sls.map fun s => ({ r0 with dv := s } : ReqV)), All ((sls.drop x.1).map fun s => RowV byteE 5 s.v ds)]) (fun x => x.1 ≤ 4 ∧ x.2.length = ents.length + 6 + 3 * x.1 ∧ BkW x.2) (fun x => 4 - x.1) (0, es1) (.cons rfl (.cons rfl (.cons rfl (.cons rfl (.cons rfl .nil))))) ⟨Nat.zero_le _, he2, hw1⟩ (fun _ h => h) ?_
    rintro ⟨i, es⟩ ⟨hi, hl, hw⟩
    dsimp only at hi hl hw ⊢
    by_cases hlt : i < 4
    case neg =>
      (refine hc_seq ?_; refine Zw rfl rfl rfl rfl rfl ?_; refine Zc rfl rfl rfl rfl rfl rfl rfl ?_; refine Zm rfl rfl rfl rfl rfl ?_; refine hx_gF rfl rfl rfl (by omega) ?_; refine hx_skip rfl rfl rfl rfl rfl rfl ?_; refine Zp rfl rfl rfl rfl rfl rfl ?_; refine Zt ?_; refine hc_condF rfl ?_; refine hc_exit ?_; (iterate 2 (refine hq_exit_then ?_)))
      exact hq_cut es ⟨by omega, hw⟩ (.cons rfl .nil) (fun _ h => h.sub (.cons .head .nil))
    have hlt2 : i < sls.length := by omega
    obtain ⟨⟨sa, sn, sc⟩, hse⟩ : ∃ s, sls[i] = s := ⟨_, rfl⟩
    have e1 : (sls.map fun s => ({ r0 with dv := s } : ReqV))[i]? = some ⟨client, seq, ack, epoch, op, id, id2, off, len, path, name, name2, ⟨sa, sn, sc⟩⟩ := by rw [List.getElem?_map, List.getElem?_eq_getElem hlt2, hse, hr0]; rfl
    have hml : (sls.map fun s => ({ r0 with dv := s } : ReqV)).length = 4 := by rw [List.length_map]; exact hsl
    refine hc_open (.tail (.tail (.tail .head))) (all_drop hlt2) ?_
    rintro ⟨⟩
    rw [hse]
    refine hc_know (fun _ h => row_len h .head) ?_
    intro hsn
    injection hsn with _ hsn _
    subst hsn
    refine hc_rowV (.tail (.tail (.tail (.tail .head)))) (fun _ e => by rw [e] at hml; cases hml) ?_
    rintro g cap rfl
    rw [hml]
    (refine hc_seq ?_; refine Zw rfl rfl rfl rfl rfl ?_; refine Zc rfl rfl rfl rfl rfl rfl rfl ?_; refine Zm rfl rfl rfl rfl rfl ?_; refine hx_gT rfl rfl rfl (by omega) ?_; refine hx_yes rfl rfl rfl ?_; refine h_move rfl rfl rfl rfl ?_; refine Zq rfl rfl rfl rfl rfl rfl ?_; refine Zt ?_; refine hc_condT rfl ?_; refine hc_skip ?_; refine hq_then ?_; refine hc_seq ?_; refine hc_block ?_; refine hc_seq ?_; refine hc_draw0 (by kernel_rfl) (by kernel_rfl) ?_; (iterate 2 (refine Zm rfl rfl rfl rfl rfl ?_)); refine hx_plain rfl ?_; refine h_rowAddr rfl rfl rfl UC.out IC.size (by omega) (by omega) rfl rfl ?_; refine hx_plain rfl ?_)
    refine h_rowLoadN (i := i) rfl .head rfl UC.out rfl IC.size e1 rfl rfl rfl ?_
    (refine hx_plain rfl ?_)
    refine h_loadP (cs' := #[.int .i64 client, .int .i64 seq, .int .i64 ack, .int .i64 epoch, .int .i64 op, .int .i64 id, .int .i64 id2, .int .i64 off, .int .i64 len, .string path, .string name, .string name2, .slice da dn dc]) rfl rfl UC.out rfl IC.size (.tail (.tail (.tail (.tail .head)))) rfl (by kernel_rfl) rfl rfl ?_
    (refine hx_plain rfl ?_)
    refine h_callRd (v := .bool true) rfl rfl rfl rfl rfl rfl EC.out (fun w' h => by
      have h2 := hrd w' _ h
      rw [hr0] at h2
      have := sameRequest (a := ⟨client, seq, ack, epoch, op, id, id2, off, len, path, name, name2, ⟨sa, ds.length, sc⟩⟩) (b := ⟨client, seq, ack, epoch, op, id, id2, off, len, path, name, name2, ⟨da, dn, dc⟩⟩) (da := ds) (db := ds) (h.rdRowV (.tail .head)) h2
      rw [sameQ_self _ _ _ rfl] at this
      exact this) ?_
    (refine Zn rfl rfl rfl rfl rfl ?_; refine hc_lex ?_; (iterate 3 (refine Zm rfl rfl rfl rfl rfl ?_)); refine hx_plain rfl ?_; refine h_rowAddr rfl rfl rfl UC.out IC.size (by omega) (by omega) rfl rfl ?_; refine hx_plain rfl ?_; refine h_fieldAddr rfl rfl FC.out rfl rfl ?_; refine hx_plain rfl ?_)
    refine h_rowLoad (i := i) (j := 12) rfl .head rfl UC.out rfl e1 rfl rfl rfl ?_
    (refine hx_plain rfl ?_)
    refine h_call rfl rfl rfl rfl rfl rfl rfl rfl EC.out (.cons (.tail (.tail (.tail .head))) (.cons (.tail .head) .nil)) (keep_spec p v3 es (.slice sa ds.length sc) ds hw (by omega) (by omega)) ?_
    rintro u M ⟨rfl, es', hl', hw', rfl⟩
    (refine hx_nil ?_; refine hq_norm_block ?_; refine hq_then ?_; refine hc_lex ?_; refine Zm rfl rfl rfl rfl rfl ?_; refine hx_plain rfl ?_; refine h_arithI rfl rfl rfl rfl (by omega) rfl rfl ?_; refine Za rfl rfl rfl rfl rfl ?_; refine hx_nil ?_)
    refine hq_round (i + 1, es') (by show 4 - (i + 1) < 4 - i; omega) ⟨by show i + 1 ≤ 4; omega, by show es'.length = _ + 3 * (i + 1); omega, hw'⟩ (.cons rfl (.cons rfl (.cons rfl (.cons rfl (.cons rfl .nil))))) (fun x h => ?_)
    have h1 := (show St w F [Row reqE 24 g cap (sls.map fun s => ({ r0 with dv := s } : ReqV)), BkO p v3 es', Blk bq (.cells #[.int .i64 client, .int .i64 seq, .int .i64 ack, .int .i64 epoch, .int .i64 op, .int .i64 id, .int .i64 id2, .int .i64 off, .int .i64 len, .string path, .string name, .string name2, .slice da dn dc] 24 (0, 0)), All ((sls.drop (i + 1)).map fun s => RowV byteE 5 s.v ds)] x by (refine St.sub ?_ h; refine .cons (.tail .head) ?_; (with_reducible refine .cons .head ?_); (with_reducible refine .cons (.tail .head) ?_); (with_reducible refine .cons .head ?_); exact .nil)).rowV_mk
    rw [hml] at h1
    exact h1.sub (.cons (.tail .head) (.cons (.tail .head) (.cons .head (.cons .head .nil))))
  rintro es ⟨hle, hwe⟩
  (refine hq_exit_block ?_; refine hq_then ?_; refine Zw rfl rfl rfl rfl rfl ?_; refine Zn rfl rfl rfl rfl rfl ?_; refine hc_ret ?_)
  exact hq_ret1 (.inr rfl) rfl rfl ⟨rfl, es, hle, hwe, rfl⟩ (fun _ h => h)
end Go.Proofs.YtfolhmlldoepfaaGreatDoor
namespace Go.Proofs.YtfolhmlldoepfaaGreatDoor
open Go Go.Proofs Go.RowKit
set_option maxRecDepth 4000
def repE : Elem RepV where
  sz := 12
  pos := by decide
  enc r := [.int .i64 r.client, .int .i64 r.seq, .int .i64 r.epoch, .int .i64 r.op, .int .i64 r.status, .int .i64 r.aid, .int .i64 r.akind, .int .i64 r.asize, .int .i64 r.achange, .slice r.dv.a r.dv.len r.dv.cap, .slice r.lv.a r.lv.len r.lv.cap, .bool r.more]
  len _ := rfl
  one q v hv := by
    simp at hv
    rcases hv with rfl | rfl | rfl | rfl | rfl | rfl | rfl | rfl | rfl | rfl | rfl | rfl <;> rfl
set_option maxHeartbeats 16000000 in
theorem replies_spec {w1 : World} (hk : Known w1) (p : Nat) (v3 : Value) (ents es : List (SlV × Nat)) (y : RepV) {ds : List Int} {els : List EntV} (hd : Rd byteE w1 y.dv.v ds) (hle : Rd entE w1 y.lv.v els) (bd : Byts ds) (hds : ds.length ≤ 1048576) (hW : BkW ents) (hn : ents.length + 18 ≤ 1099511627776) (h3 : es.length % 3 = 0) (hB2 : ∀ q ∈ es, q.2 ≤ 2000) (hn2 : es.length + 12 ≤ 1099511627776) :
    SpecB Tryz.prog w1 35 [.pointer (some ⟨p, 0, none⟩), .agg y.cs] [BkO p v3 ents, BkE v3 es] (fun u M => u = .bool true ∧ ∃ v3' ents' es', (ents'.length ≤ ents.length + 18 ∧ BkW ents') ∧ (es'.length ≤ es.length + 12 ∧ es'.length % 3 = 0 ∧ ∀ q ∈ es', q.2 ≤ 2000) ∧ M = [BkO p v3' ents', BkE v3' es']) := by
  refine specB_of Tryz.func35 rfl rfl (Nat.le_of_ble_eq_true rfl) (fun w F hB hF => ?_)
  have hkn : ∀ x L, St w F L x → Known x := fun x L h => hk.but (h.butB hB hF)
  obtain ⟨y0, hy0⟩ : ∃ y0, y0 = y := ⟨_, rfl⟩
  rw [← hy0] at hd hle
  have hdl : ds.length = y0.dv.len := rd_lenS hd
  have hll : els.length = y0.lv.len := rd_lenS hle
  have hrd : ∀ x L, St w F L x → Rd byteE x y0.dv.v ds := fun x L h => hd.butF (h.butB hB hF) (fun _ h => h.elim)
  have hrl : ∀ x L, St w F L x → Rd entE x y0.lv.v els := fun x L h => hle.butF (h.butB hB hF) (fun _ h => h.elim)
  obtain ⟨pclient, pseq, pepoch, pop, status, aid, akind, asize, achange, ⟨da, dn, dc⟩, ⟨la, ln, lc⟩, more⟩ := y
  dsimp only [RepV.cs, SlV.v]
  have hdec := decP_enc (r := y0) (ds := ds) (es := els) hdl hll
  have hsz := chkP_sizes (r := y0) (ds := ds) (es := els) hdl hll
  have hbq := encRep_byts (r := y0) (es := els) bd
  have hnil : y0.chk els ≠ 0 → encRep y0 ds els = [] := fun h => by unfold encRep; rw [if_neg h]
  have hE : ∀ x L, St w F L x → Makes Tryz.prog 25 [Value.agg #[.int .i64 pclient, .int .i64 pseq, .int .i64 pepoch, .int .i64 pop, .int .i64 status, .int .i64 aid, .int .i64 akind, .int .i64 asize, .int .i64 achange, .slice da dn dc, .slice la ln lc, .bool more]] x (EncP (encRep y0 ds els) (y0.chk els)) := fun x L h => by
    have := encP_makes (hkn x L h) y0 (hrd x L h) (hrl x L h)
    rw [hy0] at this ⊢
    exact this
  obtain ⟨eq, heq⟩ : ∃ l, encRep y0 ds els = l := ⟨_, rfl⟩
  obtain ⟨ck, hck⟩ : ∃ c, y0.chk els = c := ⟨_, rfl⟩
  rw [heq] at hE hbq
  rw [hck] at hE hsz
  rw [heq, hck] at hdec hnil
  (refine Zl rfl ?_; (refine h_box rfl rfl rfl rfl rfl rfl (fun _ => ?_)); refine Zn rfl rfl rfl rfl rfl ?_; refine Zl rfl ?_)
  rename_i bq
  refine h_loadP (cs' := #[.int .i64 pclient, .int .i64 pseq, .int .i64 pepoch, .int .i64 pop, .int .i64 status, .int .i64 aid, .int .i64 akind, .int .i64 asize, .int .i64 achange, .slice da dn dc, .slice la ln lc, .bool more]) rfl rfl UC.out rfl IC.size .head rfl (by kernel_rfl) rfl rfl ?_
  (refine hx_plain rfl ?_)
  refine h_callW (post := EncP eq ck) rfl rfl rfl rfl rfl rfl rfl rfl EC.out (fun w' h => hE w' _ h) ?_
  rintro u M ⟨a1, c1, rfl, rfl⟩
  (refine Zm rfl rfl rfl rfl rfl ?_; (iterate 2 (refine hx_plain rfl ?_; refine h_extract rfl rfl rfl rfl rfl ?_)); refine Za rfl rfl rfl rfl rfl ?_; refine Zn rfl rfl rfl rfl rfl ?_; refine Zl rfl ?_)
  refine h_loadP (cs' := #[.int .i64 pclient, .int .i64 pseq, .int .i64 pepoch, .int .i64 pop, .int .i64 status, .int .i64 aid, .int .i64 akind, .int .i64 asize, .int .i64 achange, .slice da dn dc, .slice la ln lc, .bool more]) rfl rfl UC.out rfl IC.size (.tail .head) rfl (by kernel_rfl) rfl rfl ?_
  (refine hx_plain rfl ?_)
  refine h_callW (post := EncP eq ck) rfl rfl rfl rfl rfl rfl rfl rfl EC.out (fun w' h => hE w' _ h) ?_
  rintro u M ⟨a2, c2, rfl, rfl⟩
  (refine Zm rfl rfl rfl rfl rfl ?_; (iterate 2 (refine hx_plain rfl ?_; refine h_extract rfl rfl rfl rfl rfl ?_)); refine Za rfl rfl rfl rfl rfl ?_; refine Zn rfl rfl rfl rfl rfl ?_; refine hc_seq ?_; refine Zw rfl rfl rfl rfl rfl ?_; refine Zm rfl rfl rfl rfl rfl ?_; refine Zc rfl rfl rfl rfl rfl rfl rfl ?_; refine Zm rfl rfl rfl rfl rfl ?_; refine hx_gF rfl rfl rfl (by omega) ?_; refine hx_yes rfl rfl rfl ?_; refine h_move rfl rfl rfl rfl ?_; refine hx_yes rfl rfl rfl ?_)
  refine h_callR rfl rfl rfl rfl rfl rfl EC.out ((lnum_spec ck).reads _) ?_
  by_cases hc0 : ck = 0
  case neg =>
    have hnl := hnil hc0
    subst hnl
    (refine hx_yes rfl rfl rfl ?_; refine h_cmp rfl rfl rfl rfl rfl rfl ?_; refine Zp rfl rfl rfl rfl rfl rfl ?_; refine Zt ?_; refine hc_condDT rfl (by omega) ?_; refine Zw rfl rfl rfl rfl rfl ?_; refine Zm rfl rfl rfl rfl rfl ?_; refine Zc rfl rfl rfl rfl rfl rfl rfl ?_; refine Zm rfl rfl rfl rfl rfl ?_; refine hx_gT rfl rfl rfl (by omega) ?_; refine hx_yes rfl rfl rfl ?_; refine h_move rfl rfl rfl rfl ?_; refine hx_yes rfl rfl rfl ?_; refine h_len_slice rfl rfl rfl UC.out rfl rfl rfl ?_; refine hx_yes rfl rfl rfl ?_; refine h_cmp rfl rfl rfl rfl rfl rfl ?_; refine Zq rfl rfl rfl rfl rfl rfl ?_; refine Zm rfl rfl rfl rfl rfl ?_; refine hx_yes rfl rfl rfl ?_; refine h_move rfl rfl rfl rfl ?_; refine hx_yes rfl rfl rfl ?_; refine h_len_slice rfl rfl rfl UC.out rfl rfl rfl ?_; refine hx_yes rfl rfl rfl ?_; refine h_cmp rfl rfl rfl rfl rfl rfl ?_; refine Zq rfl rfl rfl rfl rfl rfl ?_; refine Zn rfl rfl rfl rfl rfl ?_; refine hc_ret ?_; refine hq_ret_then ?_)
    exact hq_ret1 (.inr rfl) rfl rfl ⟨rfl, v3, ents, es, ⟨by omega, hW⟩, ⟨by omega, h3, hB2⟩, rfl⟩ (fun _ h => by (refine St.sub ?_ h; refine .cons (.tail (.tail (.tail .head))) ?_; (with_reducible refine .cons (.tail (.tail (.tail .head))) ?_); exact .nil))
  subst hc0
  obtain ⟨d1, d2, _, _⟩ := hdec rfl
  obtain ⟨z1, _, z3⟩ := hsz rfl
  have h1400 : eq.length ≤ 1400 := d2
  (refine hx_yes rfl rfl rfl ?_; refine h_cmp rfl rfl rfl rfl rfl rfl ?_; refine Zp rfl rfl rfl rfl rfl rfl ?_; refine Zt ?_; refine hc_condF rfl ?_; refine hc_skip ?_; refine hq_then ?_; refine Zw rfl rfl rfl rfl rfl ?_; refine hx_plain rfl ?_)
  refine h_callW (post := fun u M => M = [RowV byteE 5 u eq]) rfl rfl rfl rfl rfl rfl rfl rfl EC.out (fun w' h => bytes_makes (h.rdRowV (xs := eq) (.tail .head)) (by omega)) ?_
  rintro wv M rfl
  (refine Zn rfl rfl rfl rfl rfl ?_; refine Zx rfl rfl rfl rfl rfl ?_; refine hc_seq ?_; refine Zx rfl rfl rfl rfl rfl ?_; refine hc_block ?_)
  refine hc_cut (id := 0) (Y := Value × List (SlV × SlV)) (fun y => [(0, .pointer (some ⟨p, 0, none⟩)), (3, .pointer (some ⟨bq, 0, none⟩)), (5, .slice a1 eq.length c1), (7, .slice a2 eq.length c2), (9, wv), (10, y.1)]) (fun y => [BkO p v3 ents, BkE v3 es, Blk bq (.cells #[.int .i64 pclient, .int .i64 pseq, .int .i64 pepoch, .int .i64 pop, .int .i64 status, .int .i64 aid, .int .i64 akind, .int .i64 asize, .int .i64 achange, .slice da dn dc, .slice la ln lc, .bool more] 30 (0, 0)), RowV byteE 5 (.slice a1 eq.length c1) eq, RowV byteE 5 (.slice a2 eq.length c2) eq, RowV byteE 5 wv eq, RowV repE 30 y.1 (y.2.map (fun s : SlV × SlV => ({ y0 with dv := s.1, lv := s.2 } : RepV))), All (y.2.map (fun s : SlV × SlV => RowV byteE 5 s.1.v ds)), All (y.2.map (fun s : SlV × SlV => RowV entE 94 s.2.v els))]) (fun y => y.2.length = 4) ?_ ?_
  · refine hc_loop (X := Nat × Value × List (SlV × SlV)) (fun x => [(0, .pointer (some ⟨p, 0, none⟩)), (3, .pointer (some ⟨bq, 0, none⟩)), (5, .slice a1 eq.length c1), (7, .slice a2 eq.length c2), (9, wv), (10, x.2.1), (11, .int .i64 (x.1 : Int))]) (fun x => [BkO p v3 ents, BkE v3 es, Blk bq (.cells #[.int .i64 pclient, .int .i64 pseq, .int .i64 pepoch, .int .i64 pop, .int .i64 status, .int .i64 aid, .int .i64 akind, .int .i64 asize, .int .i64 achange, .slice da dn dc, .slice la ln lc, .bool more] 30 (0, 0)), RowV byteE 5 (.slice a1 eq.length c1) eq, RowV byteE 5 (.slice a2 eq.length c2) eq, RowV byteE 5 wv eq, RowV repE 30 x.2.1 (x.2.2.map (fun s : SlV × SlV => ({ y0 with dv := s.1, lv := s.2 } : RepV))), All (x.2.2.map (fun s : SlV × SlV => RowV byteE 5 s.1.v ds)), All (x.2.2.map (fun s : SlV × SlV => RowV entE 94 s.2.v els))]) (fun x => x.1 ≤ 4 ∧ x.2.2.length = x.1) (fun x => 4 - x.1) (0, .slice none 0 0, []) (.cons rfl (.cons rfl (.cons rfl (.cons rfl (.cons rfl (.cons rfl (.cons rfl .nil))))))) ⟨Nat.zero_le _, rfl⟩ (fun x h => ?_) ?_
    · have h1 := (show St w F [RowV byteE 5 (.slice a1 eq.length c1) eq, RowV byteE 5 (.slice a2 eq.length c2) eq, RowV byteE 5 wv eq, BkO p v3 ents, BkE v3 es, Blk bq (.cells #[.int .i64 pclient, .int .i64 pseq, .int .i64 pepoch, .int .i64 pop, .int .i64 status, .int .i64 aid, .int .i64 akind, .int .i64 asize, .int .i64 achange, .slice da dn dc, .slice la ln lc, .bool more] 30 (0, 0))] x by (refine St.sub ?_ h; refine .cons (.tail (.tail .head)) ?_; (with_reducible refine .cons (.tail .head) ?_); (with_reducible refine .cons .head ?_); refine .cons (.tail .head) ?_; (with_reducible refine .cons (.tail .head) ?_); (with_reducible refine .cons .head ?_); exact .nil))
      have h2 := (St.all (M := [])).2 ((St.all (M := [])).2 h1)
      have h3 := St.rowV_nil (E := repE) (T := 30) h2
      exact h3.sub (.cons (.tail (.tail (.tail (.tail (.tail (.tail .head)))))) (.cons (.tail (.tail (.tail (.tail (.tail (.tail .head)))))) (.cons (.tail (.tail (.tail (.tail (.tail (.tail .head)))))) (.cons (.tail (.tail (.tail .head))) (.cons (.tail (.tail (.tail .head))) (.cons (.tail (.tail (.tail .head))) (.cons .head (.cons .head (.cons .head .nil)))))))))
    rintro ⟨i, rs, sls⟩ ⟨hi, hsl⟩
    dsimp only at hi hsl ⊢
    by_cases hlt : i < 4
    case neg =>
      (refine hc_seq ?_; refine Zw rfl rfl rfl rfl rfl ?_; refine Zc rfl rfl rfl rfl rfl rfl rfl ?_; refine Zt ?_; refine hc_condDF rfl (by omega) ?_; refine hc_exit ?_; (iterate 2 (refine hq_exit_then ?_)))
      exact hq_cut (rs, sls) (by show sls.length = 4; omega) (.cons rfl (.cons rfl (.cons rfl (.cons rfl (.cons rfl (.cons rfl .nil)))))) (fun _ h => h)
    have hml : (sls.map (fun s : SlV × SlV => ({ y0 with dv := s.1, lv := s.2 } : RepV))).length = i := by rw [List.length_map]; exact hsl
    by_cases h1 : i ≤ 1
    ·
      (refine hc_seq ?_; refine Zw rfl rfl rfl rfl rfl ?_; refine Zc rfl rfl rfl rfl rfl rfl rfl ?_; refine Zt ?_; refine hc_condDT rfl (by omega) ?_; refine hc_skip ?_; refine hq_then ?_; refine hc_seq ?_; refine hc_block ?_; refine Zw rfl rfl rfl rfl rfl ?_; refine Zn rfl rfl rfl rfl rfl ?_; refine hc_seq ?_; refine Zw rfl rfl rfl rfl rfl ?_; refine Zc rfl rfl rfl rfl rfl rfl rfl ?_; refine Zt ?_; refine hc_condDF rfl (by omega) ?_; refine hc_skip ?_; refine hq_then ?_; refine Zw rfl rfl rfl rfl rfl ?_; refine hx_plain rfl ?_)
      refine h_callW (post := DecP (decP eq)) rfl rfl rfl rfl rfl rfl rfl rfl EC.out (fun w' h => decP_makes (hkn _ _ h) (by first | exact h.rdRowV (.tail (.tail (.tail .head))) | exact h.rdRowV (.tail (.tail (.tail (.tail .head))))) hbq) ?_
      rw [d1]
      rintro u M ⟨a3, c3, a4, c4, rfl, rfl⟩
      rw [show ({ (y0.bare ds.length els.length, ds, els, (0 : Int)).1 with dv := ⟨a3, ds.length, c3⟩, lv := ⟨a4, els.length, c4⟩ } : RepV) = ⟨pclient, pseq, pepoch, pop, status, aid, akind, asize, achange, ⟨a3, ds.length, c3⟩, ⟨a4, els.length, c4⟩, more⟩ by rw [hy0]; rfl]
      dsimp only [RepV.cs, SlV.v]
      (refine Zm rfl rfl rfl rfl rfl ?_; (iterate 2 (refine hx_plain rfl ?_; refine h_extract rfl rfl rfl rfl rfl ?_)); refine hx_plain rfl ?_; (refine h_alloc rfl rfl IC.zero rfl rfl rfl (fun _ => ?_)); refine hx_plain rfl ?_; refine h_storeAll rfl rfl rfl rfl rfl rfl IC.size .head rfl rfl rfl (List.all_eq_true.1 rfl) ?_; refine Zn rfl rfl rfl rfl rfl ?_; refine hc_seq ?_; refine Zw rfl rfl rfl rfl rfl ?_; refine hx_plain rfl ?_)
      refine h_callR rfl rfl rfl rfl rfl rfl EC.out ((lnum_spec 0).reads _) ?_
      (refine Zc rfl rfl rfl rfl rfl rfl rfl ?_; refine Zt ?_; refine hc_condF rfl ?_; refine hc_skip ?_; refine hq_then ?_; refine hc_lex ?_; refine Zm rfl rfl rfl rfl rfl ?_; refine hx_plain rfl ?_)
      refine h_loadP (cs' := #[.int .i64 pclient, .int .i64 pseq, .int .i64 pepoch, .int .i64 pop, .int .i64 status, .int .i64 aid, .int .i64 akind, .int .i64 asize, .int .i64 achange, .slice a3 ds.length c3, .slice a4 els.length c4, .bool more]) rfl rfl UC.out rfl IC.size (.head) rfl (by kernel_rfl) rfl rfl ?_
      (refine hx_plain rfl ?_; (refine h_buildSlice rfl rfl rfl UC.out IC.size IC.zero rfl rfl (by intro v hv; simp at hv; first | (subst hv; rfl) | (rcases hv with rfl | rfl <;> rfl) | (rcases hv with rfl | rfl | rfl <;> rfl)) (by omega) rfl rfl (fun _ => ?_)); refine hx_plain rfl ?_)
      refine h_append (m := 1) (E := repE) (T := 30) (xs := sls.map (fun s : SlV × SlV => ({ y0 with dv := s.1, lv := s.2 } : RepV))) (ys := [⟨pclient, pseq, pepoch, pop, status, aid, akind, asize, achange, ⟨a3, ds.length, c3⟩, ⟨a4, els.length, c4⟩, more⟩]) rfl rfl rfl rfl rfl UC.out IC.out rfl (.cons (.tail (.tail (.tail (.tail (.tail (.tail (.tail (.tail (.tail (.tail .head)))))))))) (.cons .head .nil)) rfl (one_row repE _) (by unfold maxLen; omega) (by omega) rfl rfl (fun v' _ => ?_)
      (refine Za rfl rfl rfl rfl rfl ?_; refine hx_nil ?_; refine hq_norm_block ?_; refine hq_then ?_; refine hc_lex ?_; refine Zm rfl rfl rfl rfl rfl ?_; refine hx_plain rfl ?_; refine h_arithI rfl rfl rfl rfl (by omega) rfl rfl ?_; refine Za rfl rfl rfl rfl rfl ?_; refine hx_nil ?_)
      refine hq_round (i + 1, v', sls ++ [(⟨a3, ds.length, c3⟩, ⟨a4, els.length, c4⟩)]) (by show 4 - (i + 1) < 4 - i; omega) ⟨by show i + 1 ≤ 4; omega, by show (sls ++ [_]).length = i + 1; rw [List.length_append, hsl]; rfl⟩ (.cons rfl (.cons rfl (.cons rfl (.cons rfl (.cons rfl (.cons rfl (.cons rfl .nil))))))) (fun x h => ?_)
      have hm : (sls ++ [((⟨a3, ds.length, c3⟩, ⟨a4, els.length, c4⟩) : SlV × SlV)]).map (fun s : SlV × SlV => ({ y0 with dv := s.1, lv := s.2 } : RepV)) = (sls.map (fun s : SlV × SlV => ({ y0 with dv := s.1, lv := s.2 } : RepV))) ++ [⟨pclient, pseq, pepoch, pop, status, aid, akind, asize, achange, ⟨a3, ds.length, c3⟩, ⟨a4, els.length, c4⟩, more⟩] := by rw [List.map_append]; congr 1; rw [hy0]; rfl
      have h1 := (show St w F [All (sls.map (fun s : SlV × SlV => RowV byteE 5 s.1.v ds)), RowV byteE 5 (.slice a3 ds.length c3) ds, All (sls.map (fun s : SlV × SlV => RowV entE 94 s.2.v els)), RowV entE 94 (.slice a4 els.length c4) els, BkO p v3 ents, BkE v3 es, Blk bq (.cells #[.int .i64 pclient, .int .i64 pseq, .int .i64 pepoch, .int .i64 pop, .int .i64 status, .int .i64 aid, .int .i64 akind, .int .i64 asize, .int .i64 achange, .slice da dn dc, .slice la ln lc, .bool more] 30 (0, 0)), RowV byteE 5 (.slice a1 eq.length c1) eq, RowV byteE 5 (.slice a2 eq.length c2) eq, RowV byteE 5 wv eq, RowV repE 30 v' ((sls.map (fun s : SlV × SlV => ({ y0 with dv := s.1, lv := s.2 } : RepV))) ++ [⟨pclient, pseq, pepoch, pop, status, aid, akind, asize, achange, ⟨a3, ds.length, c3⟩, ⟨a4, els.length, c4⟩, more⟩])] x by (refine St.sub ?_ h; (with_reducible refine .cons (.tail (.tail (.tail (.tail (.tail (.tail (.tail (.tail (.tail (.tail (.tail .head))))))))))) ?_); (with_reducible refine .cons (.tail (.tail (.tail .head))) ?_); (with_reducible refine .cons (.tail (.tail (.tail (.tail (.tail (.tail (.tail (.tail (.tail (.tail .head)))))))))) ?_); (with_reducible refine .cons (.tail (.tail (.tail .head))) ?_); (with_reducible refine .cons (.tail (.tail (.tail .head))) ?_); (with_reducible refine .cons (.tail (.tail (.tail .head))) ?_); (with_reducible refine .cons (.tail (.tail (.tail .head))) ?_); (with_reducible refine .cons (.tail (.tail (.tail .head))) ?_); (with_reducible refine .cons (.tail (.tail (.tail .head))) ?_); (with_reducible refine .cons (.tail (.tail (.tail .head))) ?_); (with_reducible refine .cons .head ?_); exact .nil))
      have h2 := shl_snoc h1
      have h3 := shl_snoc (h2.sub (.cons (.tail .head) (.cons (.tail .head) (.cons .head (.cons .head (.cons .head (.cons .head (.cons .head (.cons .head (.cons .head (.cons .head .nil)))))))))))
      show St w F [BkO p v3 ents, BkE v3 es, _, _, _, _, RowV repE 30 v' ((sls ++ [((⟨a3, ds.length, c3⟩, ⟨a4, els.length, c4⟩) : SlV × SlV)]).map (fun s : SlV × SlV => ({ y0 with dv := s.1, lv := s.2 } : RepV))), All ((sls ++ [((⟨a3, ds.length, c3⟩, ⟨a4, els.length, c4⟩) : SlV × SlV)]).map (fun s : SlV × SlV => RowV byteE 5 s.1.v ds)), All ((sls ++ [((⟨a3, ds.length, c3⟩, ⟨a4, els.length, c4⟩) : SlV × SlV)]).map (fun s : SlV × SlV => RowV entE 94 s.2.v els))] x
      rw [hm, List.map_append (f := fun s : SlV × SlV => RowV byteE 5 s.1.v ds), List.map_append (f := fun s : SlV × SlV => RowV entE 94 s.2.v els)]
      exact h3.sub (.cons (.tail (.tail .head)) (.cons (.tail (.tail .head)) (.cons (.tail (.tail .head)) (.cons (.tail (.tail .head)) (.cons (.tail (.tail .head)) (.cons (.tail (.tail .head)) (.cons (.tail (.tail .head)) (.cons (.tail .head) (.cons .head .nil)))))))))
    ·
      (refine hc_seq ?_; refine Zw rfl rfl rfl rfl rfl ?_; refine Zc rfl rfl rfl rfl rfl rfl rfl ?_; refine Zt ?_; refine hc_condDT rfl (by omega) ?_; refine hc_skip ?_; refine hq_then ?_; refine hc_seq ?_; refine hc_block ?_; refine Zw rfl rfl rfl rfl rfl ?_; refine Zn rfl rfl rfl rfl rfl ?_; refine hc_seq ?_; refine Zw rfl rfl rfl rfl rfl ?_; refine Zc rfl rfl rfl rfl rfl rfl rfl ?_; refine Zt ?_; refine hc_condDT rfl (by omega) ?_; refine hc_lex ?_; refine Zm rfl rfl rfl rfl rfl ?_; refine Zn rfl rfl rfl rfl rfl ?_; refine Zw rfl rfl rfl rfl rfl ?_; refine hx_plain rfl ?_)
      refine h_callW (post := DecP (decP eq)) rfl rfl rfl rfl rfl rfl rfl rfl EC.out (fun w' h => decP_makes (hkn _ _ h) (by first | exact h.rdRowV (.tail (.tail (.tail .head))) | exact h.rdRowV (.tail (.tail (.tail (.tail .head))))) hbq) ?_
      rw [d1]
      rintro u M ⟨a3, c3, a4, c4, rfl, rfl⟩
      rw [show ({ (y0.bare ds.length els.length, ds, els, (0 : Int)).1 with dv := ⟨a3, ds.length, c3⟩, lv := ⟨a4, els.length, c4⟩ } : RepV) = ⟨pclient, pseq, pepoch, pop, status, aid, akind, asize, achange, ⟨a3, ds.length, c3⟩, ⟨a4, els.length, c4⟩, more⟩ by rw [hy0]; rfl]
      dsimp only [RepV.cs, SlV.v]
      (refine Zm rfl rfl rfl rfl rfl ?_; (iterate 2 (refine hx_plain rfl ?_; refine h_extract rfl rfl rfl rfl rfl ?_)); refine hx_plain rfl ?_; (refine h_alloc rfl rfl IC.zero rfl rfl rfl (fun _ => ?_)); refine hx_plain rfl ?_; refine h_storeAll rfl rfl rfl rfl rfl rfl IC.size .head rfl rfl rfl (List.all_eq_true.1 rfl) ?_; refine Zn rfl rfl rfl rfl rfl ?_; refine hc_seq ?_; refine Zw rfl rfl rfl rfl rfl ?_; refine hx_plain rfl ?_)
      refine h_callR rfl rfl rfl rfl rfl rfl EC.out ((lnum_spec 0).reads _) ?_
      (refine Zc rfl rfl rfl rfl rfl rfl rfl ?_; refine Zt ?_; refine hc_condF rfl ?_; refine hc_skip ?_; refine hq_then ?_; refine hc_lex ?_; refine Zm rfl rfl rfl rfl rfl ?_; refine hx_plain rfl ?_)
      refine h_loadP (cs' := #[.int .i64 pclient, .int .i64 pseq, .int .i64 pepoch, .int .i64 pop, .int .i64 status, .int .i64 aid, .int .i64 akind, .int .i64 asize, .int .i64 achange, .slice a3 ds.length c3, .slice a4 els.length c4, .bool more]) rfl rfl UC.out rfl IC.size (.head) rfl (by kernel_rfl) rfl rfl ?_
      (refine hx_plain rfl ?_; (refine h_buildSlice rfl rfl rfl UC.out IC.size IC.zero rfl rfl (by intro v hv; simp at hv; first | (subst hv; rfl) | (rcases hv with rfl | rfl <;> rfl) | (rcases hv with rfl | rfl | rfl <;> rfl)) (by omega) rfl rfl (fun _ => ?_)); refine hx_plain rfl ?_)
      refine h_append (m := 1) (E := repE) (T := 30) (xs := sls.map (fun s : SlV × SlV => ({ y0 with dv := s.1, lv := s.2 } : RepV))) (ys := [⟨pclient, pseq, pepoch, pop, status, aid, akind, asize, achange, ⟨a3, ds.length, c3⟩, ⟨a4, els.length, c4⟩, more⟩]) rfl rfl rfl rfl rfl UC.out IC.out rfl (.cons (.tail (.tail (.tail (.tail (.tail (.tail (.tail (.tail (.tail (.tail .head)))))))))) (.cons .head .nil)) rfl (one_row repE _) (by unfold maxLen; omega) (by omega) rfl rfl (fun v' _ => ?_)
      (refine Za rfl rfl rfl rfl rfl ?_; refine hx_nil ?_; refine hq_norm_block ?_; refine hq_then ?_; refine hc_lex ?_; refine Zm rfl rfl rfl rfl rfl ?_; refine hx_plain rfl ?_; refine h_arithI rfl rfl rfl rfl (by omega) rfl rfl ?_; refine Za rfl rfl rfl rfl rfl ?_; refine hx_nil ?_)
      refine hq_round (i + 1, v', sls ++ [(⟨a3, ds.length, c3⟩, ⟨a4, els.length, c4⟩)]) (by show 4 - (i + 1) < 4 - i; omega) ⟨by show i + 1 ≤ 4; omega, by show (sls ++ [_]).length = i + 1; rw [List.length_append, hsl]; rfl⟩ (.cons rfl (.cons rfl (.cons rfl (.cons rfl (.cons rfl (.cons rfl (.cons rfl .nil))))))) (fun x h => ?_)
      have hm : (sls ++ [((⟨a3, ds.length, c3⟩, ⟨a4, els.length, c4⟩) : SlV × SlV)]).map (fun s : SlV × SlV => ({ y0 with dv := s.1, lv := s.2 } : RepV)) = (sls.map (fun s : SlV × SlV => ({ y0 with dv := s.1, lv := s.2 } : RepV))) ++ [⟨pclient, pseq, pepoch, pop, status, aid, akind, asize, achange, ⟨a3, ds.length, c3⟩, ⟨a4, els.length, c4⟩, more⟩] := by rw [List.map_append]; congr 1; rw [hy0]; rfl
      have h1 := (show St w F [All (sls.map (fun s : SlV × SlV => RowV byteE 5 s.1.v ds)), RowV byteE 5 (.slice a3 ds.length c3) ds, All (sls.map (fun s : SlV × SlV => RowV entE 94 s.2.v els)), RowV entE 94 (.slice a4 els.length c4) els, BkO p v3 ents, BkE v3 es, Blk bq (.cells #[.int .i64 pclient, .int .i64 pseq, .int .i64 pepoch, .int .i64 pop, .int .i64 status, .int .i64 aid, .int .i64 akind, .int .i64 asize, .int .i64 achange, .slice da dn dc, .slice la ln lc, .bool more] 30 (0, 0)), RowV byteE 5 (.slice a1 eq.length c1) eq, RowV byteE 5 (.slice a2 eq.length c2) eq, RowV byteE 5 wv eq, RowV repE 30 v' ((sls.map (fun s : SlV × SlV => ({ y0 with dv := s.1, lv := s.2 } : RepV))) ++ [⟨pclient, pseq, pepoch, pop, status, aid, akind, asize, achange, ⟨a3, ds.length, c3⟩, ⟨a4, els.length, c4⟩, more⟩])] x by (refine St.sub ?_ h; (with_reducible refine .cons (.tail (.tail (.tail (.tail (.tail (.tail (.tail (.tail (.tail (.tail (.tail .head))))))))))) ?_); (with_reducible refine .cons (.tail (.tail (.tail .head))) ?_); (with_reducible refine .cons (.tail (.tail (.tail (.tail (.tail (.tail (.tail (.tail (.tail (.tail .head)))))))))) ?_); (with_reducible refine .cons (.tail (.tail (.tail .head))) ?_); (with_reducible refine .cons (.tail (.tail (.tail .head))) ?_); (with_reducible refine .cons (.tail (.tail (.tail .head))) ?_); (with_reducible refine .cons (.tail (.tail (.tail .head))) ?_); (with_reducible refine .cons (.tail (.tail (.tail .head))) ?_); (with_reducible refine .cons (.tail (.tail (.tail .head))) ?_); (with_reducible refine .cons (.tail (.tail (.tail .head))) ?_); (with_reducible refine .cons .head ?_); exact .nil))
      have h2 := shl_snoc h1
      have h3 := shl_snoc (h2.sub (.cons (.tail .head) (.cons (.tail .head) (.cons .head (.cons .head (.cons .head (.cons .head (.cons .head (.cons .head (.cons .head (.cons .head .nil)))))))))))
      show St w F [BkO p v3 ents, BkE v3 es, _, _, _, _, RowV repE 30 v' ((sls ++ [((⟨a3, ds.length, c3⟩, ⟨a4, els.length, c4⟩) : SlV × SlV)]).map (fun s : SlV × SlV => ({ y0 with dv := s.1, lv := s.2 } : RepV))), All ((sls ++ [((⟨a3, ds.length, c3⟩, ⟨a4, els.length, c4⟩) : SlV × SlV)]).map (fun s : SlV × SlV => RowV byteE 5 s.1.v ds)), All ((sls ++ [((⟨a3, ds.length, c3⟩, ⟨a4, els.length, c4⟩) : SlV × SlV)]).map (fun s : SlV × SlV => RowV entE 94 s.2.v els))] x
      rw [hm, List.map_append (f := fun s : SlV × SlV => RowV byteE 5 s.1.v ds), List.map_append (f := fun s : SlV × SlV => RowV entE 94 s.2.v els)]
      exact h3.sub (.cons (.tail (.tail .head)) (.cons (.tail (.tail .head)) (.cons (.tail (.tail .head)) (.cons (.tail (.tail .head)) (.cons (.tail (.tail .head)) (.cons (.tail (.tail .head)) (.cons (.tail (.tail .head)) (.cons (.tail .head) (.cons .head .nil)))))))))
  rintro ⟨rs, sls⟩ hsl
  dsimp only at hsl ⊢
  (refine hq_exit_block ?_; refine hq_then ?_; refine Zw rfl rfl rfl rfl rfl ?_; (iterate 2 (refine Zm rfl rfl rfl rfl rfl ?_)); refine hx_plain rfl ?_; (refine h_buildSlice rfl rfl rfl UC.out IC.size IC.zero rfl rfl (by intro v hv; simp at hv; first | (subst hv; rfl) | (rcases hv with rfl | rfl <;> rfl) | (rcases hv with rfl | rfl | rfl <;> rfl)) (by omega) rfl rfl (fun _ => ?_)); refine Zm rfl rfl rfl rfl rfl ?_; refine hx_plain rfl ?_)
  rename_i arr
  obtain ⟨two, htwo⟩ : ∃ l : List SlV, l = [⟨a1, eq.length, c1⟩, ⟨a2, eq.length, c2⟩] := ⟨_, rfl⟩
  have h2l : two.length = 2 := by rw [htwo]; rfl
  refine hx1_conv rfl rfl (C' := St w F [BkO p v3 ents, Row slE 22 arr two.length two, RowV byteE 5 wv eq, All (two.map fun s => RowV byteE 5 s.v eq), BkE v3 es, Blk bq (.cells #[.int .i64 pclient, .int .i64 pseq, .int .i64 pepoch, .int .i64 pop, .int .i64 status, .int .i64 aid, .int .i64 akind, .int .i64 asize, .int .i64 achange, .slice da dn dc, .slice la ln lc, .bool more] 30 (0, 0)), RowV repE 30 rs (sls.map (fun s : SlV × SlV => ({ y0 with dv := s.1, lv := s.2 } : RepV))), All (sls.map (fun s : SlV × SlV => RowV byteE 5 s.1.v ds)), All (sls.map (fun s : SlV × SlV => RowV entE 94 s.2.v els))]) (fun x h => ?_) ?_
  · have q1 := St.blk_row (E := slE) (xs := [⟨a1, eq.length, c1⟩, ⟨a2, eq.length, c2⟩]) h rfl (by show 2 ≤ maxLen; decide) (flat_row slE _)
    have q2 := (St.all (M := [RowV byteE 5 (.slice a1 eq.length c1) eq, RowV byteE 5 (.slice a2 eq.length c2) eq])).2 (q1.sub (.cons (.tail (.tail (.tail (.tail .head)))) (.cons (.tail (.tail (.tail (.tail .head)))) (.cons .head (.cons .head (.cons .head (.cons .head (.cons .head (.cons .head (.cons .head (.cons .head .nil)))))))))))
    rw [htwo]
    exact q2.sub (.cons (.tail (.tail .head)) (.cons (.tail .head) (.cons (.tail (.tail (.tail .head))) (.cons .head (.cons .head (.cons .head (.cons .head (.cons .head (.cons .head .nil)))))))))
  subst htwo
  skip
  refine h_call rfl rfl rfl rfl rfl rfl rfl rfl EC.out (.cons .head (.cons .head (.cons .head (.cons .head .nil)))) (all_spec p v3 ents arr 2 [⟨a1, eq.length, c1⟩, ⟨a2, eq.length, c2⟩] wv eq hW (by show ents.length + 6 ≤ _; omega) (by omega) (by show (2 : Nat) ≤ 1048576; decide)) ?_
  rintro u M ⟨rfl, es1, he1, hw1, rfl⟩
  have he2 : es1.length = ents.length + 6 := he1
  (refine Zn rfl rfl rfl rfl rfl ?_; refine hc_seq ?_; refine Zx rfl rfl rfl rfl rfl ?_; refine hc_block ?_)
  refine hc_cut (id := 2) (Y := Value × List (SlV × Nat) × List (SlV × Nat)) (fun _ => [(15, .bool true)]) (fun y => [BkO p y.1 y.2.1, BkE y.1 y.2.2]) (fun y => (y.2.1.length ≤ ents.length + 18 ∧ BkW y.2.1) ∧ (y.2.2.length ≤ es.length + 12 ∧ y.2.2.length % 3 = 0 ∧ ∀ q ∈ y.2.2, q.2 ≤ 2000)) ?_ ?_
  · refine hc_loop (X := Nat × Value × List (SlV × Nat) × List (SlV × Nat)) (fun x => [(0, .pointer (some ⟨p, 0, none⟩)), (3, .pointer (some ⟨bq, 0, none⟩)), (10, rs), (15, .bool true), (16, .int .i64 (x.1 : Int))]) (fun x => [BkO p x.2.1 x.2.2.1, BkE x.2.1 x.2.2.2, Blk bq (.cells #[.int .i64 pclient, .int .i64 pseq, .int .i64 pepoch, .int .i64 pop, .int .i64 status, .int .i64 aid, .int .i64 akind, .int .i64 asize, .int .i64 achange, .slice da dn dc, .slice la ln lc, .bool more] 30 (0, 0)), RowV repE 30 rs (sls.map (fun s : SlV × SlV => ({ y0 with dv := s.1, lv := s.2 } : RepV))), All ((sls.drop x.1).map (fun s : SlV × SlV => RowV byteE 5 s.1.v ds)), All ((sls.drop x.1).map (fun s : SlV × SlV => RowV entE 94 s.2.v els))]) (fun x => x.1 ≤ 4 ∧ (x.2.2.1.length = ents.length + 6 + 3 * x.1 ∧ BkW x.2.2.1) ∧ (x.2.2.2.length = es.length + 3 * x.1 ∧ ∀ q ∈ x.2.2.2, q.2 ≤ 2000)) (fun x => 4 - x.1) (0, v3, es1, es) (.cons rfl (.cons rfl (.cons rfl (.cons rfl (.cons rfl .nil))))) ⟨Nat.zero_le _, ⟨he2, hw1⟩, rfl, hB2⟩ (fun _ h => by (refine St.sub ?_ h; refine .cons .head ?_; refine .cons .head ?_; (with_reducible refine .cons .head ?_); (with_reducible refine .cons .head ?_); (with_reducible refine .cons .head ?_); (with_reducible refine .cons .head ?_); exact .nil)) ?_
    rintro ⟨i, v3, eb, ee⟩ ⟨hi, ⟨hl, hw⟩, hl2, hb2⟩
    dsimp only at hi hl hw hl2 hb2 ⊢
    by_cases hlt : i < 4
    case neg =>
      (refine hc_seq ?_; refine Zw rfl rfl rfl rfl rfl ?_; refine Zc rfl rfl rfl rfl rfl rfl rfl ?_; refine Zm rfl rfl rfl rfl rfl ?_; refine hx_gF rfl rfl rfl (by omega) ?_; refine hx_skip rfl rfl rfl rfl rfl rfl ?_; refine Zp rfl rfl rfl rfl rfl rfl ?_; refine Zt ?_; refine hc_condF rfl ?_; refine hc_exit ?_; (iterate 2 (refine hq_exit_then ?_)))
      exact hq_cut (v3, eb, ee) ⟨⟨by show eb.length ≤ _; omega, hw⟩, by show ee.length ≤ _; omega, by show ee.length % 3 = 0; omega, hb2⟩ (.cons rfl .nil) (fun _ h => h.sub (.cons .head (.cons .head .nil)))
    have hlt2 : i < sls.length := by omega
    obtain ⟨⟨⟨sa, sn, sc⟩, ⟨ta, tn, tc⟩⟩, hse⟩ : ∃ s, sls[i] = s := ⟨_, rfl⟩
    have e1 : (sls.map (fun s : SlV × SlV => ({ y0 with dv := s.1, lv := s.2 } : RepV)))[i]? = some ⟨pclient, pseq, pepoch, pop, status, aid, akind, asize, achange, ⟨sa, sn, sc⟩, ⟨ta, tn, tc⟩, more⟩ := by rw [List.getElem?_map, List.getElem?_eq_getElem hlt2, hse, hy0]; rfl
    have hml : (sls.map (fun s : SlV × SlV => ({ y0 with dv := s.1, lv := s.2 } : RepV))).length = 4 := by rw [List.length_map]; exact hsl
    refine hc_open (.tail (.tail (.tail (.tail .head)))) (all_drop hlt2) ?_
    rintro ⟨⟩
    refine hc_open (.tail (.tail (.tail (.tail (.tail (.tail .head)))))) (all_drop hlt2) ?_
    rintro ⟨⟩
    rw [hse]
    refine hc_know (fun _ h => row_len h .head) ?_
    intro hsn
    injection hsn with _ hsn _
    subst hsn
    refine hc_know (fun _ h => row_len h (.tail (.tail .head))) ?_
    intro hsn
    injection hsn with _ hsn _
    subst hsn
    refine hc_rowV (.tail (.tail (.tail (.tail (.tail (.tail (.tail .head))))))) (fun _ e => by rw [e] at hml; cases hml) ?_
    rintro g cap rfl
    rw [hml]
    (refine hc_seq ?_; refine Zw rfl rfl rfl rfl rfl ?_; refine Zc rfl rfl rfl rfl rfl rfl rfl ?_; refine Zm rfl rfl rfl rfl rfl ?_; refine hx_gT rfl rfl rfl (by omega) ?_; refine hx_yes rfl rfl rfl ?_; refine h_move rfl rfl rfl rfl ?_; refine Zq rfl rfl rfl rfl rfl rfl ?_; refine Zt ?_; refine hc_condT rfl ?_; refine hc_skip ?_; refine hq_then ?_; refine hc_seq ?_; refine hc_block ?_; refine hc_seq ?_; refine hc_draw0 (by kernel_rfl) (by kernel_rfl) ?_; (iterate 2 (refine Zm rfl rfl rfl rfl rfl ?_)); refine hx_plain rfl ?_; refine h_rowAddr rfl rfl rfl UC.out IC.size (by omega) (by omega) rfl rfl ?_; refine hx_plain rfl ?_)
    refine h_rowLoadN (i := i) rfl .head rfl UC.out rfl IC.size e1 rfl rfl rfl ?_
    (refine hx_plain rfl ?_)
    refine h_loadP (cs' := #[.int .i64 pclient, .int .i64 pseq, .int .i64 pepoch, .int .i64 pop, .int .i64 status, .int .i64 aid, .int .i64 akind, .int .i64 asize, .int .i64 achange, .slice da dn dc, .slice la ln lc, .bool more]) rfl rfl UC.out rfl IC.size (.tail (.tail (.tail (.tail (.tail (.tail (.tail .head))))))) rfl (by kernel_rfl) rfl rfl ?_
    (refine hx_plain rfl ?_)
    refine h_callRd (v := .bool true) rfl rfl rfl rfl rfl rfl EC.out (fun w' h => by
      have h2 := hrd w' _ h
      have h4 := hrl w' _ h
      rw [hy0] at h2 h4
      have := sameReply (a := ⟨pclient, pseq, pepoch, pop, status, aid, akind, asize, achange, ⟨sa, ds.length, sc⟩, ⟨ta, els.length, tc⟩, more⟩) (b := ⟨pclient, pseq, pepoch, pop, status, aid, akind, asize, achange, ⟨da, dn, dc⟩, ⟨la, ln, lc⟩, more⟩) (da := ds) (db := ds) (ea := els) (eb := els) (h.rdRowV (by first | exact (.tail .head) | exact (.tail (.tail (.tail .head))))) h2 (h.rdRowV (by first | exact (.tail .head) | exact (.tail (.tail (.tail .head))))) h4
      rw [sameP_self _ _ _ _ rfl] at this
      exact this) ?_
    (refine Zn rfl rfl rfl rfl rfl ?_; refine Zw rfl rfl rfl rfl rfl ?_; (iterate 2 (refine Zm rfl rfl rfl rfl rfl ?_)); refine hx_plain rfl ?_; refine h_rowAddr rfl rfl rfl UC.out IC.size (by omega) (by omega) rfl rfl ?_; refine hx_plain rfl ?_; refine h_fieldAddr rfl rfl FC.out rfl rfl ?_; refine hx_plain rfl ?_)
    refine h_rowLoad (i := i) (j := 9) rfl .head rfl UC.out rfl e1 rfl rfl rfl ?_
    (refine hx_plain rfl ?_)
    refine h_call rfl rfl rfl rfl rfl rfl rfl rfl EC.out (by first | exact (.cons (.tail (.tail (.tail (.tail (.tail .head))))) (.cons (.tail .head) .nil)) | exact (.cons (.tail (.tail (.tail (.tail (.tail .head))))) (.cons (.tail (.tail (.tail .head))) .nil))) (keep_spec p v3 eb (.slice sa ds.length sc) ds hw (by omega) (by omega)) ?_
    rintro u M ⟨rfl, eb', hl', hw', rfl⟩
    (refine Zt ?_; refine hc_lex ?_; (iterate 3 (refine Zm rfl rfl rfl rfl rfl ?_)); refine hx_plain rfl ?_; refine h_rowAddr rfl rfl rfl UC.out IC.size (by omega) (by omega) rfl rfl ?_; refine hx_plain rfl ?_; refine h_fieldAddr rfl rfl FC.out rfl rfl ?_; refine hx_plain rfl ?_)
    refine h_rowLoad (i := i) (j := 10) rfl (.tail .head) rfl UC.out rfl e1 rfl rfl rfl ?_
    (refine hx_plain rfl ?_)
    refine h_call rfl rfl rfl rfl rfl rfl rfl rfl EC.out (by first | exact (.cons .head (.cons (.tail (.tail (.tail (.tail .head)))) (.cons (.tail .head) .nil))) | exact (.cons .head (.cons (.tail (.tail (.tail (.tail .head)))) (.cons (.tail (.tail .head)) .nil))) | exact (.cons .head (.cons (.tail (.tail (.tail (.tail .head)))) (.cons (.tail (.tail (.tail .head))) .nil)))) (entries_spec p v3 (.slice ta els.length tc) eb' ee els (by omega) (by omega) (by omega)) ?_
    rintro u M ⟨rfl, v3', ee', hl3', hb3', rfl⟩
    (refine hx_nil ?_; refine hq_norm_block ?_; refine hq_then ?_; refine hc_lex ?_; refine Zm rfl rfl rfl rfl rfl ?_; refine hx_plain rfl ?_; refine h_arithI rfl rfl rfl rfl (by omega) rfl rfl ?_; refine Za rfl rfl rfl rfl rfl ?_; refine hx_nil ?_)
    refine hq_round (i + 1, v3', eb', ee') (by show 4 - (i + 1) < 4 - i; omega) ⟨by show i + 1 ≤ 4; omega, ⟨by show eb'.length = _ + 3 * (i + 1); omega, hw'⟩, by show ee'.length = _ + 3 * (i + 1); omega, fun q hq => (hb3' q hq).elim (hb2 q) id⟩ (.cons rfl (.cons rfl (.cons rfl (.cons rfl (.cons rfl .nil))))) (fun x h => ?_)
    have h1 := (show St w F [Row repE 30 g cap (sls.map (fun s : SlV × SlV => ({ y0 with dv := s.1, lv := s.2 } : RepV))), BkO p v3' eb', BkE v3' ee', Blk bq (.cells #[.int .i64 pclient, .int .i64 pseq, .int .i64 pepoch, .int .i64 pop, .int .i64 status, .int .i64 aid, .int .i64 akind, .int .i64 asize, .int .i64 achange, .slice da dn dc, .slice la ln lc, .bool more] 30 (0, 0)), All ((sls.drop (i + 1)).map (fun s : SlV × SlV => RowV byteE 5 s.1.v ds)), All ((sls.drop (i + 1)).map (fun s : SlV × SlV => RowV entE 94 s.2.v els))] x by (refine St.sub ?_ h; refine .cons (.tail (.tail .head)) ?_; (with_reducible refine .cons .head ?_); (with_reducible refine .cons .head ?_); (with_reducible refine .cons (.tail (.tail .head)) ?_); (with_reducible refine .cons (.tail .head) ?_); (with_reducible refine .cons .head ?_); exact .nil)).rowV_mk
    rw [hml] at h1
    exact h1.sub (.cons (.tail .head) (.cons (.tail .head) (.cons (.tail .head) (.cons .head (.cons .head (.cons .head .nil))))))
  rintro ⟨v3', eb, ee⟩ ⟨hp1, hp2⟩
  (refine hq_exit_block ?_; refine hq_then ?_; refine Zw rfl rfl rfl rfl rfl ?_; refine Zn rfl rfl rfl rfl rfl ?_; refine hc_ret ?_)
  exact hq_ret1 (.inr rfl) rfl rfl ⟨rfl, v3', eb, ee, hp1, hp2, rfl⟩ (fun _ h => h)
end Go.Proofs.YtfolhmlldoepfaaGreatDoor
namespace Go.Proofs.YtfolhmlldoepfaaGreatDoor
open Go Go.Proofs Go.ChangeShapes Go.WideShapes Go.ChangeAt Go.RowKit
set_option maxRecDepth 100000
theorem reqE_inj {q q' : ReqV} (e : q'.cs.toList = reqE.enc q) : q' = q := by
  obtain ⟨a0, a1, a2, a3, a4, a5, a6, a7, a8, a9, a10, a11, ⟨b0, b1, b2⟩⟩ := q
  obtain ⟨c0, c1, c2, c3, c4, c5, c6, c7, c8, c9, c10, c11, ⟨d0, d1, d2⟩⟩ := q'
  simp [reqE, SlV.v] at e
  simp [e]
theorem repE_inj {q q' : RepV} (e : q'.cs.toList = repE.enc q) : q' = q := by
  obtain ⟨a0, a1, a2, a3, a4, a5, a6, a7, a8, ⟨b0, b1, b2⟩, ⟨f0, f1, f2⟩, a9⟩ := q
  obtain ⟨c0, c1, c2, c3, c4, c5, c6, c7, c8, ⟨d0, d1, d2⟩, ⟨g0, g1, g2⟩, c9⟩ := q'
  simp [repE, SlV.v] at e
  simp [e]
theorem ofFn_fst {α β : Type} {xs : List α} (f : Fin xs.length → β) : (List.ofFn (fun i : Fin xs.length => (xs[i], f i))).map (·.1) = xs := by
  apply List.ext_getElem
  · simp
  · intro i h1 h2
    simp
section
variable {H : Type} {enc : TypeId × Value → H} {w : World} {base : Nat} {spare : Nat → Bool} {held : Bool} {r : Reach} {b0 : Nat} {v : Value} {d : DataW H} {p : List MemPlace}
theorem arg_reqs (hv : Value.okWide Tryz.prog w r b0 60 v) (h : DataW.Trod enc Tryz.prog w base spare held 60 v d p) :
    ∃ rs : List (ReqV × List Int), Rd reqE w v (rs.map (·.1)) ∧ (∀ q ∈ rs, Rd byteE w q.1.dv.v q.2 ∧ Byts q.2 ∧ q.2.length ≤ Rows.uptoBulk d) ∧ rs.length ≤ Rows.uptoBulk d := by
  obtain ⟨xs, h1, h2⟩ := rd_gen reqE Tryz.underlying60 (by kernel_rfl) hv h (fun n cs x hf => by
    obtain ⟨q, _, e, _⟩ := read_req n cs x hf
    exact ⟨q, e⟩)
  rcases h2 with ⟨rfl, rfl⟩ | ⟨D, rest, rfl, hd⟩
  · exact ⟨[], h1, fun q hq => (by cases hq), Nat.zero_le _⟩
  · have each : ∀ i : Fin xs.length, ∃ ds : List Int, Rd byteE w xs[i].dv.v ds ∧ Byts ds ∧ ds.length ≤ Rows.uptoBulk (D i.1) := fun i => by
      obtain ⟨n, pl, ht⟩ := hd i.1 xs[i] (List.getElem?_eq_getElem i.2)
      obtain ⟨q, ds, e, k1, k2, _, k3⟩ := read_req _ _ _ ht
      have := reqE_inj e
      subst this
      exact ⟨ds, k1, k2, k3⟩
    obtain ⟨f, hf⟩ := Classical.axiomOfChoice each
    have hall := bulk_all ((List.range xs.length).map D)
    simp only [List.length_map, List.length_range] at hall
    refine ⟨List.ofFn (fun i : Fin xs.length => (xs[i], f i)), by rw [ofFn_fst]; exact h1, fun q hq => ?_, by simp only [List.length_ofFn, Rows.uptoBulk]; omega⟩
    obtain ⟨i, rfl⟩ := List.mem_ofFn.1 hq
    obtain ⟨k1, k2, k3⟩ := hf i
    have hm := bulk_mem (List.mem_map_of_mem (f := D) (List.mem_range.2 i.2))
    refine ⟨k1, k2, ?_⟩
    simp only [Rows.uptoBulk]
    show (f i).length ≤ _
    omega
theorem arg_reps (hv : Value.okWide Tryz.prog w r b0 61 v) (h : DataW.Trod enc Tryz.prog w base spare held 61 v d p) :
    ∃ ys : List (RepV × List Int × List EntV), Rd repE w v (ys.map (·.1)) ∧ (∀ q ∈ ys, (Rd byteE w q.1.dv.v q.2.1 ∧ Byts q.2.1 ∧ q.2.1.length ≤ Rows.uptoBulk d) ∧ Rd entE w q.1.lv.v q.2.2) ∧ ys.length ≤ Rows.uptoBulk d := by
  obtain ⟨xs, h1, h2⟩ := rd_gen repE Tryz.underlying61 (by kernel_rfl) hv h (fun n cs x hf => by
    obtain ⟨q, _, _, e, _⟩ := read_rep n cs x hf
    exact ⟨q, e⟩)
  rcases h2 with ⟨rfl, rfl⟩ | ⟨D, rest, rfl, hd⟩
  · exact ⟨[], h1, fun q hq => (by cases hq), Nat.zero_le _⟩
  · have each : ∀ i : Fin xs.length, ∃ ds : List Int × List EntV, (Rd byteE w xs[i].dv.v ds.1 ∧ Byts ds.1 ∧ ds.1.length ≤ Rows.uptoBulk (D i.1)) ∧ Rd entE w xs[i].lv.v ds.2 := fun i => by
      obtain ⟨n, pl, ht⟩ := hd i.1 xs[i] (List.getElem?_eq_getElem i.2)
      obtain ⟨q, ds, es, e, k1, k2, k4, k3, _⟩ := read_rep _ _ _ ht
      have := repE_inj e
      subst this
      exact ⟨(ds, es), ⟨k1, k2, k3⟩, k4⟩
    obtain ⟨f, hf⟩ := Classical.axiomOfChoice each
    have hall := bulk_all ((List.range xs.length).map D)
    simp only [List.length_map, List.length_range] at hall
    refine ⟨List.ofFn (fun i : Fin xs.length => (xs[i], f i)), by rw [ofFn_fst]; exact h1, fun q hq => ?_, by simp only [List.length_ofFn, Rows.uptoBulk]; omega⟩
    obtain ⟨i, rfl⟩ := List.mem_ofFn.1 hq
    obtain ⟨⟨k1, k2, k3⟩, k4⟩ := hf i
    have hm := bulk_mem (List.mem_map_of_mem (f := D) (List.mem_range.2 i.2))
    refine ⟨⟨k1, k2, ?_⟩, k4⟩
    simp only [Rows.uptoBulk]
    show (f i).1.length ≤ _
    omega
end
end Go.Proofs.YtfolhmlldoepfaaGreatDoor
namespace Go.Proofs.YtfolhmlldoepfaaGreatDoor
open Go Go.Proofs Go.RowKit
set_option maxRecDepth 4000
set_option maxHeartbeats 8000000 in
theorem own_law {w : World} (hk : Known w) {v1 v2 : Value} {rs : List (ReqV × List Int)} {ys : List (RepV × List Int × List EntV)} (h1 : Rd reqE w v1 (rs.map (·.1))) (h2 : Rd repE w v2 (ys.map (·.1))) (hr : ∀ q ∈ rs, Rd byteE w q.1.dv.v q.2 ∧ Byts q.2 ∧ q.2.length ≤ 1048576) (hy : ∀ q ∈ ys, (Rd byteE w q.1.dv.v q.2.1 ∧ Byts q.2.1 ∧ q.2.1.length ≤ 1048576) ∧ Rd entE w q.1.lv.v q.2.2) (hn1 : rs.length ≤ 1048576) (hn2 : ys.length ≤ 1048576) :
    Calls Tryz.prog 8 [v1, v2].toArray w (fun en w' => en = .returned (.bool true) ∧ But w w' nowhere) := by
  have m1l : (rs.map (·.1)).length = rs.length := List.length_map _
  have m2l : (ys.map (·.1)).length = ys.length := List.length_map _
  obtain ⟨a1, c1, rfl, l1, m1, k1⟩ := h1
  obtain ⟨a2, c2, rfl, l2, m2, k2⟩ := h2
  unfold maxLen at m1 m2
  refine reads_of Tryz.func8 rfl rfl (Nat.le_of_ble_eq_true rfl) ?_
  (refine Zx rfl rfl rfl rfl rfl ?_; refine Zl rfl ?_)
  refine h_callRd rfl rfl rfl rfl rfl rfl EC.out (fun w' h => head_reads (hk.but h.but)) ?_
  (refine Zn rfl rfl rfl rfl rfl ?_; refine hc_seq ?_; refine Zw rfl rfl rfl rfl rfl ?_; refine hx_plain rfl ?_; refine h_not rfl rfl rfl rfl ?_; refine Zt ?_; refine hc_condF rfl ?_; refine hc_skip ?_; refine hq_then ?_; refine Zl rfl ?_; refine h_build rfl inferInstance rfl rfl rfl rfl ?_; refine hx_plain rfl ?_; (refine h_box rfl rfl rfl rfl rfl rfl (fun _ => ?_)); refine Zn rfl rfl rfl rfl rfl ?_; refine hc_seq ?_; refine Zx rfl rfl rfl rfl rfl ?_; refine hc_block ?_)
  rename_i p
  obtain ⟨vn, hvn⟩ : ∃ v : Value, v = .slice none 0 0 := ⟨_, rfl⟩
  refine hc_cut (id := 0) (Y := List (SlV × Nat)) (fun _ => [(1, .slice a2 (ys.map (·.1)).length c2), (6, .pointer (some ⟨p, 0, none⟩))]) (fun y => [BkO p vn y, BkE vn []]) (fun y => y.length ≤ 18 * rs.length ∧ BkW y) ?_ ?_
  · refine hc_loop (X := Nat × List (SlV × Nat)) (fun x => [(0, .slice a1 (rs.map (·.1)).length c1), (1, .slice a2 (ys.map (·.1)).length c2), (6, .pointer (some ⟨p, 0, none⟩)), (7, .int .i64 (x.1 : Int))]) (fun x => [BkO p vn x.2, BkE vn []]) (fun x => x.1 ≤ rs.length ∧ x.2.length ≤ 18 * x.1 ∧ BkW x.2) (fun x => rs.length - x.1) (0, []) (.cons rfl (.cons rfl (.cons rfl (.cons rfl .nil)))) ⟨Nat.zero_le _, Nat.zero_le _, ⟨rfl, fun q h => by cases h⟩⟩ (fun x h => ?_) ?_
    · have h1 := BkO_new (p := p) (v3 := .slice none 0 0) h
      have h2 := BkE_new h1
      rw [hvn]
      exact h2.sub (.cons (.tail .head) (.cons .head .nil))
    rintro ⟨i, es⟩ ⟨hi, hl, hw⟩
    dsimp only at hi hl hw ⊢
    by_cases hlt : i < rs.length
    case neg =>
      (refine hc_seq ?_; refine Zw rfl rfl rfl rfl rfl ?_; refine Zm rfl rfl rfl rfl rfl ?_; refine hx_plain rfl ?_; refine h_len_slice rfl rfl rfl UC.out rfl rfl rfl ?_; refine Zc rfl rfl rfl rfl rfl rfl rfl ?_; refine Zt ?_; refine hc_condDF rfl (by omega) ?_; refine hc_exit ?_; (iterate 2 (refine hq_exit_then ?_)))
      exact hq_cut es ⟨by show es.length ≤ _; omega, hw⟩ (.cons rfl (.cons rfl .nil)) (fun _ h => h)
    have hne : rs.map (·.1) ≠ [] := by
      intro e
      have := congrArg List.length e
      rw [m1l, List.length_nil] at this
      omega
    obtain ⟨g1, o1, rfl, r1⟩ := k1.resolve_left hne
    obtain ⟨⟨⟨client, seq, ack, epoch, op, id, id2, off, len, path, name, name2, ⟨da, dn, dc⟩⟩, ds⟩, hq⟩ : ∃ q, rs[i]? = some q := ⟨_, List.getElem?_eq_getElem hlt⟩
    have e1 : (rs.map (·.1))[((i : Nat) : Int).toNat]? = some ⟨client, seq, ack, epoch, op, id, id2, off, len, path, name, name2, ⟨da, dn, dc⟩⟩ := by rw [List.getElem?_map]; show (rs[i]?).map _ = _; rw [hq]; rfl
    obtain ⟨q1, q2, q3⟩ := hr _ (List.mem_iff_getElem?.2 ⟨i, hq⟩)
    dsimp only at q1 q2 q3
    (refine hc_seq ?_; refine Zw rfl rfl rfl rfl rfl ?_; refine Zm rfl rfl rfl rfl rfl ?_; refine hx_plain rfl ?_; refine h_len_slice rfl rfl rfl UC.out rfl rfl rfl ?_; refine Zc rfl rfl rfl rfl rfl rfl rfl ?_; refine Zt ?_; refine hc_condDT rfl (by omega) ?_; refine hc_skip ?_; refine hq_then ?_; refine hc_seq ?_; refine hc_block ?_; refine Zw rfl rfl rfl rfl rfl ?_; (iterate 2 (refine Zm rfl rfl rfl rfl rfl ?_)); refine hx_plain rfl ?_; refine h_indexAddr rfl rfl rfl UC.out IC.size (by omega) (by omega) rfl rfl ?_; refine hx_plain rfl ?_; refine h_rdLoadN rfl r1 rfl UC.out rfl IC.size (by with_reducible assumption) rfl rfl rfl ?_; refine hx_plain rfl ?_)
    refine h_callB (.refl _ _) (fun _ h => h.elim) rfl rfl rfl rfl rfl rfl rfl rfl EC.out (.cons .head .nil) (requests_spec hk p vn es ⟨client, seq, ack, epoch, op, id, id2, off, len, path, name, name2, ⟨da, dn, dc⟩⟩ q1 q2 q3 hw (by omega)) ?_
    rintro u M ⟨rfl, es', hl', hw', rfl⟩
    (refine Zn rfl rfl rfl rfl rfl ?_; refine Zw rfl rfl rfl rfl rfl ?_; refine hx_plain rfl ?_; refine h_not rfl rfl rfl rfl ?_; refine Zt ?_; refine hc_condF rfl ?_; refine hc_skip ?_; refine hq_norm_block ?_; refine hq_then ?_; refine hc_lex ?_; refine Zm rfl rfl rfl rfl rfl ?_; refine hx_plain rfl ?_; refine h_arithI rfl rfl rfl rfl (by omega) rfl rfl ?_; refine Za rfl rfl rfl rfl rfl ?_; refine hx_nil ?_)
    exact hq_round (i + 1, es') (by show rs.length - (i + 1) < rs.length - i; omega) ⟨by show i + 1 ≤ rs.length; omega, by show es'.length ≤ 18 * (i + 1); omega, hw'⟩ (.cons rfl (.cons rfl (.cons rfl (.cons rfl .nil)))) (fun _ h => h)
  rintro en0 ⟨hl0, hw0⟩
  (refine hq_exit_block ?_; refine hq_then ?_; refine hc_seq ?_; refine Zx rfl rfl rfl rfl rfl ?_; refine hc_block ?_)
  refine hc_cut (id := 2) (Y := Value × List (SlV × Nat) × List (SlV × Nat)) (fun _ => [(6, .pointer (some ⟨p, 0, none⟩))]) (fun y => [BkO p y.1 y.2.1, BkE y.1 y.2.2]) (fun y => (y.2.1.length ≤ 18 * rs.length + 18 * ys.length ∧ BkW y.2.1) ∧ (y.2.2.length ≤ 12 * ys.length ∧ ∀ q ∈ y.2.2, q.2 ≤ 2000)) ?_ ?_
  · refine hc_loop (X := Nat × Value × List (SlV × Nat) × List (SlV × Nat)) (fun x => [(1, .slice a2 (ys.map (·.1)).length c2), (6, .pointer (some ⟨p, 0, none⟩)), (8, .int .i64 (x.1 : Int))]) (fun x => [BkO p x.2.1 x.2.2.1, BkE x.2.1 x.2.2.2]) (fun x => x.1 ≤ ys.length ∧ (x.2.2.1.length ≤ 18 * rs.length + 18 * x.1 ∧ BkW x.2.2.1) ∧ (x.2.2.2.length ≤ 12 * x.1 ∧ x.2.2.2.length % 3 = 0 ∧ ∀ q ∈ x.2.2.2, q.2 ≤ 2000)) (fun x => ys.length - x.1) (0, vn, en0, []) (.cons rfl (.cons rfl (.cons rfl .nil))) ⟨Nat.zero_le _, ⟨hl0, hw0⟩, Nat.zero_le _, rfl, fun q h => by cases h⟩ (fun _ h => h) ?_
    rintro ⟨i, v3, eb, ee⟩ ⟨hi, ⟨hl, hw⟩, hl2, hm3, hb2⟩
    dsimp only at hi hl hw hl2 hm3 hb2 ⊢
    by_cases hlt : i < ys.length
    case neg =>
      (refine hc_seq ?_; refine Zw rfl rfl rfl rfl rfl ?_; refine Zm rfl rfl rfl rfl rfl ?_; refine hx_plain rfl ?_; refine h_len_slice rfl rfl rfl UC.out rfl rfl rfl ?_; refine Zc rfl rfl rfl rfl rfl rfl rfl ?_; refine Zt ?_; refine hc_condDF rfl (by omega) ?_; refine hc_exit ?_; (iterate 2 (refine hq_exit_then ?_)))
      exact hq_cut (v3, eb, ee) ⟨⟨by show eb.length ≤ _; omega, hw⟩, by show ee.length ≤ _; omega, hb2⟩ (.cons rfl .nil) (fun _ h => h)
    have hne : ys.map (·.1) ≠ [] := by
      intro e
      have := congrArg List.length e
      rw [m2l, List.length_nil] at this
      omega
    obtain ⟨g2, o2, rfl, r1⟩ := k2.resolve_left hne
    obtain ⟨⟨⟨pclient, pseq, pepoch, pop, status, aid, akind, asize, achange, ⟨da, dn, dc⟩, ⟨la, ln, lc⟩, more⟩, ds, els⟩, hq⟩ : ∃ q, ys[i]? = some q := ⟨_, List.getElem?_eq_getElem hlt⟩
    have e1 : (ys.map (·.1))[((i : Nat) : Int).toNat]? = some ⟨pclient, pseq, pepoch, pop, status, aid, akind, asize, achange, ⟨da, dn, dc⟩, ⟨la, ln, lc⟩, more⟩ := by rw [List.getElem?_map]; show (ys[i]?).map _ = _; rw [hq]; rfl
    obtain ⟨⟨q1, q2, q3⟩, q4⟩ := hy _ (List.mem_iff_getElem?.2 ⟨i, hq⟩)
    dsimp only at q1 q2 q3 q4
    (refine hc_seq ?_; refine Zw rfl rfl rfl rfl rfl ?_; refine Zm rfl rfl rfl rfl rfl ?_; refine hx_plain rfl ?_; refine h_len_slice rfl rfl rfl UC.out rfl rfl rfl ?_; refine Zc rfl rfl rfl rfl rfl rfl rfl ?_; refine Zt ?_; refine hc_condDT rfl (by omega) ?_; refine hc_skip ?_; refine hq_then ?_; refine hc_seq ?_; refine hc_block ?_; refine Zw rfl rfl rfl rfl rfl ?_; (iterate 2 (refine Zm rfl rfl rfl rfl rfl ?_)); refine hx_plain rfl ?_; refine h_indexAddr rfl rfl rfl UC.out IC.size (by omega) (by omega) rfl rfl ?_; refine hx_plain rfl ?_; refine h_rdLoadN rfl r1 rfl UC.out rfl IC.size (by with_reducible assumption) rfl rfl rfl ?_; refine hx_plain rfl ?_)
    refine h_callB (.refl _ _) (fun _ h => h.elim) rfl rfl rfl rfl rfl rfl rfl rfl EC.out (.cons .head (.cons .head .nil)) (replies_spec hk p v3 eb ee ⟨pclient, pseq, pepoch, pop, status, aid, akind, asize, achange, ⟨da, dn, dc⟩, ⟨la, ln, lc⟩, more⟩ q1 q4 q2 q3 hw (by omega) hm3 hb2 (by omega)) ?_
    rintro u M ⟨rfl, v3', eb', ee', ⟨hl', hw'⟩, ⟨hl2', hm3', hb2'⟩, rfl⟩
    (refine Zn rfl rfl rfl rfl rfl ?_; refine Zw rfl rfl rfl rfl rfl ?_; refine hx_plain rfl ?_; refine h_not rfl rfl rfl rfl ?_; refine Zt ?_; refine hc_condF rfl ?_; refine hc_skip ?_; refine hq_norm_block ?_; refine hq_then ?_; refine hc_lex ?_; refine Zm rfl rfl rfl rfl rfl ?_; refine hx_plain rfl ?_; refine h_arithI rfl rfl rfl rfl (by omega) rfl rfl ?_; refine Za rfl rfl rfl rfl rfl ?_; refine hx_nil ?_)
    exact hq_round (i + 1, v3', eb', ee') (by show ys.length - (i + 1) < ys.length - i; omega) ⟨by show i + 1 ≤ ys.length; omega, ⟨by show eb'.length ≤ 18 * rs.length + 18 * (i + 1); omega, hw'⟩, by show ee'.length ≤ 12 * (i + 1); omega, hm3', hb2'⟩ (.cons rfl (.cons rfl (.cons rfl .nil))) (fun _ h => h)
  rintro ⟨v3, eb, ee⟩ ⟨⟨hl, hw⟩, hl2, hb2⟩
  dsimp only at hl hw hl2 hb2 ⊢
  (refine hq_exit_block ?_; refine hq_then ?_; refine Zw rfl rfl rfl rfl rfl ?_; refine hx_plain rfl ?_)
  refine h_call rfl rfl rfl rfl rfl rfl rfl rfl EC.out (.cons .head .nil) (whole_spec p v3 eb (by omega) hw) ?_
  rintro u M ⟨rfl, rfl⟩
  (refine Zm rfl rfl rfl rfl rfl ?_; refine hx_yes rfl rfl rfl ?_; refine h_move rfl rfl rfl rfl ?_; refine hx_yes rfl rfl rfl ?_)
  refine h_call rfl rfl rfl rfl rfl rfl rfl rfl EC.out (.cons .head (.cons .head .nil)) (stand_spec p v3 eb ee (by omega) hb2) ?_
  rintro u M ⟨rfl, rfl⟩
  (refine Zq rfl rfl rfl rfl rfl rfl ?_; refine Zn rfl rfl rfl rfl rfl ?_; refine hc_ret ?_)
  exact hq_ret1 (.inr rfl) rfl rfl ⟨rfl, rfl⟩ (fun _ h => h.emp)
end Go.Proofs.YtfolhmlldoepfaaGreatDoor
