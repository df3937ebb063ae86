import Derived.Test.YtjnnlfeohbidhaaDoorR3
namespace Go.Proofs.YtjnnlfeohbidhaaDoor
open Go Go.Proofs Go.RowKit
set_option maxRecDepth 4000

/-! ### The book -/
def mkF (i j : Nat) : Int := IntKind.u8.wrap ((i : Int) * 167 + (i : Int) / 256 * 91 + (j : Int) * 29)
theorem mark_spec (i j : Nat) (hi : i ≤ 35184372088832) (hj : j ≤ 35184372088832) : Spec0 Tryd.prog 49 [.int .i64 (i : Int), .int .i64 (j : Int)] (.int .u8 (mkF i j)) := by
  refine spec_of Tryd.func49 rfl rfl (Nat.le_of_ble_eq_true rfl) (fun w F => ?_)
  (refine hc_seq ?_; refine hc_lex ?_; refine hx_plain rfl ?_; refine h_assign rfl rfl rfl rfl ?_; refine hx_nil ?_; refine hq_then ?_; refine hc_seq ?_; refine hc_lex ?_; refine hx_plain rfl ?_; refine h_move rfl rfl rfl rfl ?_; refine hx_plain rfl ?_; refine h_arithI rfl rfl rfl rfl (by omega) rfl rfl ?_; refine hx_plain rfl ?_; refine h_move rfl rfl rfl rfl ?_; refine hx_plain rfl ?_; refine h_quoI rfl rfl rfl (by omega) rfl rfl ?_; refine hx_plain rfl ?_; refine h_arithI rfl rfl rfl rfl (by omega) rfl rfl ?_; refine hx_plain rfl ?_; refine h_arithI rfl rfl rfl rfl (by omega) rfl rfl ?_; refine hx_plain rfl ?_; refine h_move rfl rfl rfl rfl ?_; refine hx_plain rfl ?_; refine h_arithI rfl rfl rfl rfl (by omega) rfl rfl ?_; refine hx_plain rfl ?_; refine h_arithI rfl rfl rfl rfl (by omega) rfl rfl ?_; refine hx_plain rfl ?_; refine h_convInt rfl rfl UC.out UC.out rfl rfl ?_; refine hx_plain rfl ?_; refine h_assign rfl rfl rfl rfl ?_; refine hx_nil ?_; refine hq_then ?_; refine hc_ret ?_)
  exact hq_ret1 (.inr rfl) rfl rfl ⟨rfl, rfl⟩ (fun _ h => h.emp)
/-- The first i of a list overwritten. -/
def fillF (f : Nat → Int) (xs : List Int) (i : Nat) : List Int := Seq f i ++ xs.drop i
theorem fillF_len {f : Nat → Int} {xs : List Int} {i : Nat} (h : i ≤ xs.length) : (fillF f xs i).length = xs.length := by
  unfold fillF
  rw [List.length_append, Seq.len, List.length_drop]
  omega
theorem fillF_get {f : Nat → Int} {xs : List Int} {i : Nat} (h : i < xs.length) : (fillF f xs i)[i]? = some xs[i] := by
  unfold fillF
  rw [List.getElem?_append_right (by rw [Seq.len]; exact Nat.le_refl _), Seq.len, Nat.sub_self, List.getElem?_drop, Nat.add_zero, List.getElem?_eq_getElem h]
theorem fillF_set {f : Nat → Int} {xs : List Int} {i : Nat} (h : i < xs.length) : (fillF f xs i).set i (f i) = fillF f xs (i + 1) := by
  unfold fillF
  rw [List.set_append_right _ _ (by rw [Seq.len]; exact Nat.le_refl _), Seq.len, Nat.sub_self, List.drop_eq_getElem_cons h, List.set_cons_zero, Seq.succ, List.append_assoc]
  rfl
theorem fillF_all {f : Nat → Int} {xs : List Int} {i : Nat} (h : xs.length ≤ i) (h2 : i ≤ xs.length) : fillF f xs i = Seq f xs.length := by
  obtain rfl : i = xs.length := by omega
  unfold fillF
  rw [List.drop_length, List.append_nil]
theorem pool_one (f : Nat → Int) (l : Nat) : ∀ i, i < 1 → ∀ j u, (byteE.enc (f (l + i)))[j]? = some u → (#[Value.int .u8 (f l)] : Array Value)[i * byteE.sz + j]? = some u := by
  intro i hi j u h
  obtain rfl : i = 0 := by omega
  match j, h with
  | 0, h => exact h
  | j + 1, h => cases h
theorem pool_two (f : Nat → Int) (l : Nat) : ∀ i, i < 2 → ∀ j u, (byteE.enc (f (l + i)))[j]? = some u → (#[Value.int .u8 (f l), Value.int .u8 (f (l + 1))] : Array Value)[i * byteE.sz + j]? = some u := by
  intro i hi j u h
  match i, hi, j, h with
  | 0, _, 0, h => exact h
  | 0, _, j + 1, h => cases h
  | 1, _, 0, h => exact h
  | 1, _, j + 1, h => cases h
/-- The book's lists, with what they hold. -/
def bkH (ents : List (SlV × Nat)) : List (Value × List Int) := ents.zipIdx.map fun q => (q.1.1.v, Seq (mkF (q.2 / 3)) q.1.2)
def BkO (p : Nat) (ents : List (SlV × Nat)) : Asn := Ex fun v : Value × Value => All [Blk p (.cells #[v.1, v.2] 40 (0, 0)), RowV slE 22 v.1 (ents.map (·.1)), RowV intE 3 v.2 (ents.map fun q => (q.2 : Int)), Holds byteE (bkH ents)]
theorem BkO_open {p : Nat} {ents : List (SlV × Nat)} (w w0 : World) (F0 : Nat → Prop) (R : List Asn) (h : St w0 F0 (BkO p ents :: R) w) : ∃ v : Value × Value, St w0 F0 ([Blk p (.cells #[v.1, v.2] 40 (0, 0)), RowV slE 22 v.1 (ents.map (·.1)), RowV intE 3 v.2 (ents.map fun q => (q.2 : Int)), Holds byteE (bkH ents)] ++ R) w := by
  obtain ⟨x, hx⟩ := St.ex.1 h
  exact ⟨x, St.all.1 hx⟩
theorem BkO_shut {p : Nat} {ents : List (SlV × Nat)} {v1 v2 : Value} {w w0 : World} {F0 : Nat → Prop} {R : List Asn} (h : St w0 F0 ([Blk p (.cells #[v1, v2] 40 (0, 0)), RowV slE 22 v1 (ents.map (·.1)), RowV intE 3 v2 (ents.map fun q => (q.2 : Int)), Holds byteE (bkH ents)] ++ R) w) : St w0 F0 (BkO p ents :: R) w :=
  St.ex.2 ⟨(v1, v2), St.all.2 h⟩
theorem BkO_new {p : Nat} {w w0 : World} {F0 : Nat → Prop} {R : List Asn} (h : St w0 F0 (Blk p (.cells #[.slice none 0 0, .slice none 0 0] 40 (0, 0)) :: R) w) : St w0 F0 (BkO p [] :: R) w := by
  have h1 : St w0 F0 (Holds byteE [] :: RowV intE 3 (.slice none 0 0) [] :: RowV slE 22 (.slice none 0 0) [] :: Blk p (.cells #[.slice none 0 0, .slice none 0 0] 40 (0, 0)) :: R) w := (St.rowV_nil (St.rowV_nil h)).holds_nil
  exact BkO_shut (h1.pulls (.cons (.tail (.tail (.tail .head))) (.cons (.tail (.tail .head)) (.cons (.tail .head) (.cons .head .nil)))))
theorem bkH_add (ents : List (SlV × Nat)) (a b c : SlV × Nat) (h3 : ents.length % 3 = 0) : bkH (ents ++ [a, b, c]) = bkH ents ++ [(a.1.v, Seq (mkF (ents.length / 3)) a.2), (b.1.v, Seq (mkF (ents.length / 3)) b.2), (c.1.v, Seq (mkF (ents.length / 3)) c.2)] := by
  have e1 : (ents.length + 1) / 3 = ents.length / 3 := by omega
  have e2 : (ents.length + 2) / 3 = ents.length / 3 := by omega
  simp [bkH, List.zipIdx_append, e1, e2]
def BkW (ents : List (SlV × Nat)) : Prop := ents.length % 3 = 0 ∧ ∀ q ∈ ents, q.2 ≤ 1099511627776

set_option maxHeartbeats 8000000 in
theorem keep_spec (p : Nat) (ents : List (SlV × Nat)) (v : Value) (xs : List Int) (h3 : BkW ents) (hl : ents.length ≤ 1099511627776) (hx : xs.length ≤ 1099511627600) :
    Spec Tryd.prog 48 [.pointer (some ⟨p, 0, none⟩), v] [BkO p ents, RowV byteE 5 v xs] (fun u M => u = .tuple #[] ∧ ∃ ents', ents'.length = ents.length + 3 ∧ BkW ents' ∧ M = [BkO p ents']) := by
  refine spec_of Tryd.func48 rfl rfl (Nat.le_of_ble_eq_true rfl) (fun w F => ?_)
  refine hc_open .head BkO_open ?_
  rintro ⟨vL, vN⟩
  dsimp only
  have hlen : (ents.map (·.1)).length = ents.length := List.length_map _
  have hlen2 : (ents.map (fun q => (q.2 : Int))).length = ents.length := List.length_map _
  (refine hc_seq ?_; refine hc_lex ?_; refine hx_plain rfl ?_; refine h_move rfl rfl rfl rfl ?_; refine hx_plain rfl ?_; refine h_nilCheck rfl rfl rfl rfl ?_; refine hx_plain rfl ?_; refine h_fieldAddr0 rfl rfl FC.out rfl rfl ?_; refine hx_plain rfl ?_; refine h_load rfl rfl UC.out rfl .head rfl rfl rfl ?_; refine hx_plain rfl ?_)
  refine h_lenV rfl rfl (.tail .head) rfl UC.out rfl rfl rfl ?_
  rw [hlen]
  (refine hx_plain rfl ?_; refine h_quoI rfl rfl rfl (by omega) rfl rfl ?_; refine hx_plain rfl ?_; refine h_assign rfl rfl rfl rfl ?_; refine hx_nil ?_; refine hq_then ?_; refine hc_seq ?_; refine hc_lex ?_; refine hx_plain rfl ?_; refine h_move rfl rfl rfl rfl ?_; refine hx_plain rfl ?_)
  rw [show (ents.length : Int) / 3 = ((ents.length / 3 : Nat) : Int) by omega]
  obtain ⟨m, hm⟩ : ∃ m : Nat, m = ents.length / 3 := ⟨_, rfl⟩
  have hm2 : m ≤ 1099511627776 := by omega
  rw [← hm]
  refine h_lenV rfl rfl (.tail (.tail (.tail (.tail .head)))) rfl UC.out rfl rfl rfl ?_
  (refine hx_plain rfl ?_; refine h_assign rfl rfl rfl rfl ?_; refine hx_nil ?_; refine hq_then ?_; refine hc_seq ?_; refine hc_seq ?_; refine hc_lex ?_; refine hx_plain rfl ?_; refine h_assign rfl rfl rfl rfl ?_; refine hx_nil ?_; refine hq_then ?_; refine hc_block ?_)
  have n0 : (xs.length : Int) + 1 = ((xs.length + 1 : Nat) : Int) := by omega
  have n2 : (xs.length : Int) + 2 = ((xs.length + 2 : Nat) : Int) := by omega
  refine hc_cut (id := 0) (Y := Unit) (fun _ => [(0, .pointer (some ⟨p, 0, none⟩)), (1, v), (4, .int .i64 (m : Int)), (5, .int .i64 (xs.length : Int))]) (fun _ => [Blk p (.cells #[vL, vN] 40 (0, 0)), RowV slE 22 vL (ents.map (·.1)), RowV intE 3 vN (ents.map fun q => (q.2 : Int)), Holds byteE (bkH ents), RowV byteE 5 v (Seq (mkF m) xs.length)]) (fun _ => True) ?_ ?_
  · refine hc_loop (X := Nat) (fun i => [(0, .pointer (some ⟨p, 0, none⟩)), (1, v), (4, .int .i64 (m : Int)), (5, .int .i64 (xs.length : Int)), (6, .int .i64 (i : Int))]) (fun i => [Blk p (.cells #[vL, vN] 40 (0, 0)), RowV slE 22 vL (ents.map (·.1)), RowV intE 3 vN (ents.map fun q => (q.2 : Int)), Holds byteE (bkH ents), RowV byteE 5 v (fillF (mkF m) xs i)]) (fun i => i ≤ xs.length) (fun i => xs.length - i) 0 (.cons rfl (.cons rfl (.cons rfl (.cons rfl (.cons rfl .nil))))) (Nat.zero_le _) (fun _ h => h) ?_
    intro i hi
    by_cases hlt : i < xs.length
    · refine hc_rowV (.tail (.tail (.tail (.tail .head)))) ?_ ?_
      · intro _ e1
        have := congrArg List.length e1
        rw [fillF_len hi] at this
        have h0 : xs.length = 0 := this
        omega
      · rintro g cap rfl
        rw [fillF_len hi]
        have e1 : (fillF (mkF m) xs i)[i]? = some xs[i] := fillF_get hlt
        (refine hc_seq ?_; refine hc_seq ?_; refine hc_lex ?_; refine hx_plain rfl ?_; refine h_move rfl rfl rfl rfl ?_; refine hx_plain rfl ?_; refine h_move rfl rfl rfl rfl ?_; refine hx_plain rfl ?_; refine h_cmp rfl rfl rfl rfl rfl rfl ?_; refine hx_nil ?_; refine hq_then ?_; refine hc_condDT rfl (by omega) ?_; refine hc_skip ?_; refine hq_then ?_; refine hc_seq ?_; refine hc_block ?_; refine hc_lex ?_; refine hx_plain rfl ?_; refine h_move rfl rfl rfl rfl ?_; refine hx_plain rfl ?_; refine h_move rfl rfl rfl rfl ?_; refine hx_plain rfl ?_; refine h_move rfl rfl rfl rfl ?_; refine hx_plain rfl ?_; refine h_move rfl rfl rfl rfl ?_; refine hx_plain rfl ?_)
        refine h_callR rfl rfl rfl rfl rfl rfl EC.out ((mark_spec m i (by omega) (by omega)).reads _) ?_
        (refine hx_plain rfl ?_; refine h_rowAddr rfl rfl rfl UC.out IC.size (by omega) (by omega) rfl rfl ?_; refine hx_plain rfl ?_)
        refine h_rowStoreN (i := i) (z := mkF m i) rfl rfl rfl .head rfl rfl rfl IC.size e1 rfl rfl ?_
        (refine hx_nil ?_; refine hq_norm_block ?_; refine hq_then ?_; refine hc_lex ?_; refine hx_plain rfl ?_; refine h_move rfl rfl rfl rfl ?_; refine hx_plain rfl ?_; refine h_arithI rfl rfl rfl rfl (by omega) rfl rfl ?_; refine hx_plain rfl ?_; refine h_assign rfl rfl rfl rfl ?_; refine hx_nil ?_)
        refine hq_round (i + 1) (by omega) (by omega) (.cons rfl (.cons rfl (.cons rfl (.cons rfl (.cons rfl .nil))))) (fun _ h => ?_)
        have h2 : fillF (mkF m) xs (i + 1) = (fillF (mkF m) xs i).set i (mkF m i) := (fillF_set hlt).symm
        rw [h2]
        have h3 := (show St _ _ (Row byteE 5 g cap ((fillF (mkF m) xs i).set i (mkF m i)) :: _) _ from h).rowV_mk
        rw [List.length_set, fillF_len hi] at h3
        exact h3.sub (.cons (.tail .head) (.cons (.tail .head) (.cons (.tail .head) (.cons (.tail .head) (.cons .head .nil)))))
    · rw [fillF_all (by omega) hi]
      (refine hc_seq ?_; refine hc_seq ?_; refine hc_lex ?_; refine hx_plain rfl ?_; refine h_move rfl rfl rfl rfl ?_; refine hx_plain rfl ?_; refine h_move rfl rfl rfl rfl ?_; refine hx_plain rfl ?_; refine h_cmp rfl rfl rfl rfl rfl rfl ?_; refine hx_nil ?_; refine hq_then ?_; refine hc_condDF rfl (by omega) ?_; refine hc_exit ?_; refine hq_exit_then ?_; refine hq_exit_then ?_)
      exact hq_cut () trivial (.cons rfl (.cons rfl (.cons rfl (.cons rfl .nil)))) (fun _ h => h)
  · rintro ⟨⟩ _
    (refine hq_exit_block ?_; refine hq_then ?_; refine hc_seq ?_; refine hc_lex ?_; refine hx_plain rfl ?_; refine h_move rfl rfl rfl rfl ?_; refine hx_plain rfl ?_; refine h_move rfl rfl rfl rfl ?_; refine hx_plain rfl ?_; refine h_move rfl rfl rfl rfl ?_; refine hx_plain rfl ?_)
    refine h_callR rfl rfl rfl rfl rfl rfl EC.out ((mark_spec m xs.length (by omega) (by omega)).reads _) ?_
    (refine hx_plain rfl ?_; (refine h_buildSlice rfl rfl rfl UC.out IC.size IC.zero rfl rfl (by intro v hv; simp at hv; first | (subst hv; rfl) | (rcases hv with rfl | rfl <;> rfl) | (rcases hv with rfl | rfl | rfl <;> rfl)) (by omega) rfl rfl (fun _ => ?_)); refine hx_plain rfl ?_)
    rename_i b
    refine hx1_conv rfl rfl (C' := St w F [Pool byteE 5 (mkF m) [(v, xs.length)], Blk b (.cells #[.int .u8 (mkF m xs.length)] 5 (0, 0)), Blk p (.cells #[vL, vN] 40 (0, 0)), RowV slE 22 vL (ents.map (·.1)), RowV intE 3 vN (ents.map fun q => (q.2 : Int)), Holds byteE (bkH ents)]) (fun _ h => ?_) ?_
    · exact St.pool (h.sub (.cons (.tail (.tail (.tail (.tail (.tail .head))))) (.cons .head (.cons .head (.cons .head (.cons .head (.cons .head .nil)))))))
    refine h_poolAppend (E := byteE) (T := 5) (f := mkF m) (l := xs.length) (m := 1) rfl rfl rfl rfl rfl UC.out IC.out rfl (.cons .head (.cons .head .nil)) (.head _) rfl (pool_one (mkF m) xs.length) (by unfold maxLen; omega) (by omega) rfl rfl (fun v1 => ?_)
    (refine hx_plain rfl ?_; refine h_assign rfl rfl rfl rfl ?_; refine hx_nil ?_; refine hq_then ?_; refine hc_seq ?_; refine hc_lex ?_; refine hx_plain rfl ?_; refine h_move rfl rfl rfl rfl ?_; refine hx_plain rfl ?_; refine h_move rfl rfl rfl rfl ?_; refine hx_plain rfl ?_; refine h_move rfl rfl rfl rfl ?_; refine hx_plain rfl ?_)
    refine h_callR rfl rfl rfl rfl rfl rfl EC.out ((mark_spec m xs.length (by omega) (by omega)).reads _) ?_
    (refine hx_plain rfl ?_; refine h_move rfl rfl rfl rfl ?_; refine hx_plain rfl ?_; refine h_move rfl rfl rfl rfl ?_; refine hx_plain rfl ?_; refine h_arithI rfl rfl rfl rfl (by omega) rfl rfl ?_; refine hx_plain rfl ?_)
    rw [n0]
    refine h_callR rfl rfl rfl rfl rfl rfl EC.out ((mark_spec m (xs.length + 1) (by omega) (by omega)).reads _) ?_
    (refine hx_plain rfl ?_; (refine h_buildSlice rfl rfl rfl UC.out IC.size IC.zero rfl rfl (by intro v hv; simp at hv; first | (subst hv; rfl) | (rcases hv with rfl | rfl <;> rfl) | (rcases hv with rfl | rfl | rfl <;> rfl)) (by omega) rfl rfl (fun _ => ?_)); refine hx_plain rfl ?_)
    refine h_poolAppend (E := byteE) (T := 5) (f := mkF m) (l := xs.length) (m := 2) rfl rfl rfl rfl rfl UC.out IC.out rfl (.cons (.tail .head) (.cons .head .nil)) (.head _) rfl (pool_two (mkF m) xs.length) (by unfold maxLen; omega) (by omega) rfl rfl (fun v2 => ?_)
    (refine hx_plain rfl ?_; refine h_assign rfl rfl rfl rfl ?_; refine hx_nil ?_; refine hq_then ?_; refine hc_seq ?_; refine hc_seq ?_; refine hc_lex ?_; refine hx_plain rfl ?_; refine h_move rfl rfl rfl rfl ?_; refine hx_plain rfl ?_; refine h_arithI rfl rfl rfl rfl (by omega) rfl rfl ?_; refine hx_plain rfl ?_; refine h_assign rfl rfl rfl rfl ?_; refine hx_nil ?_; refine hq_then ?_; refine hc_block ?_)
    rw [n2]
    refine hc_cut (id := 2) (Y := Value) (fun v2 => [(0, .pointer (some ⟨p, 0, none⟩)), (1, v), (4, .int .i64 (m : Int)), (5, .int .i64 (xs.length : Int)), (7, v1), (8, v2)]) (fun v2 => [Pool byteE 5 (mkF m) [(v, xs.length), (v1, xs.length + 1), (v2, xs.length + 92)], Blk p (.cells #[vL, vN] 40 (0, 0)), RowV slE 22 vL (ents.map (·.1)), RowV intE 3 vN (ents.map fun q => (q.2 : Int)), Holds byteE (bkH ents)]) (fun _ => True) ?_ ?_
    · refine hc_loop (X := Nat × Value) (fun x => [(0, .pointer (some ⟨p, 0, none⟩)), (1, v), (4, .int .i64 (m : Int)), (5, .int .i64 (xs.length : Int)), (7, v1), (8, x.2), (9, .int .i64 ((xs.length + 2 + x.1 : Nat) : Int))]) (fun x => [Pool byteE 5 (mkF m) [(v, xs.length), (v1, xs.length + 1), (x.2, xs.length + 2 + x.1)], Blk p (.cells #[vL, vN] 40 (0, 0)), RowV slE 22 vL (ents.map (·.1)), RowV intE 3 vN (ents.map fun q => (q.2 : Int)), Holds byteE (bkH ents)]) (fun x => x.1 ≤ 90) (fun x => 90 - x.1) (0, v2) (.cons rfl (.cons rfl (.cons rfl (.cons rfl (.cons rfl (.cons rfl (.cons rfl .nil))))))) (Nat.zero_le _) (fun _ h => h.sub (.cons .head (.cons (.tail (.tail .head)) (.cons (.tail (.tail .head)) (.cons (.tail (.tail .head)) (.cons (.tail (.tail .head)) .nil)))))) ?_
      rintro ⟨i, v2⟩ hi
      dsimp only at hi ⊢
      by_cases hlt : i < 90
      · (refine hc_seq ?_; refine hc_seq ?_; refine hc_lex ?_; refine hx_plain rfl ?_; refine h_move rfl rfl rfl rfl ?_; refine hx_plain rfl ?_; refine h_move rfl rfl rfl rfl ?_; refine hx_plain rfl ?_; refine h_arithI rfl rfl rfl rfl (by omega) rfl rfl ?_; refine hx_plain rfl ?_; refine h_cmp rfl rfl rfl rfl rfl rfl ?_; refine hx_nil ?_; refine hq_then ?_; refine hc_condDT rfl (by omega) ?_; refine hc_skip ?_; refine hq_then ?_; refine hc_seq ?_; refine hc_block ?_; refine hc_lex ?_; refine hx_plain rfl ?_; refine h_move rfl rfl rfl rfl ?_; refine hx_plain rfl ?_; refine h_move rfl rfl rfl rfl ?_; refine hx_plain rfl ?_; refine h_move rfl rfl rfl rfl ?_; refine hx_plain rfl ?_)
        refine h_callR rfl rfl rfl rfl rfl rfl EC.out ((mark_spec m (xs.length + 2 + i) (by omega) (by omega)).reads _) ?_
        (refine hx_plain rfl ?_; (refine h_buildSlice rfl rfl rfl UC.out IC.size IC.zero rfl rfl (by intro v hv; simp at hv; first | (subst hv; rfl) | (rcases hv with rfl | rfl <;> rfl) | (rcases hv with rfl | rfl | rfl <;> rfl)) (by omega) rfl rfl (fun _ => ?_)); refine hx_plain rfl ?_)
        refine h_poolAppend (E := byteE) (T := 5) (f := mkF m) (l := xs.length + 2 + i) (m := 1) rfl rfl rfl rfl rfl UC.out IC.out rfl (.cons (.tail .head) (.cons .head .nil)) (.tail _ (.tail _ (.head _))) rfl (pool_one (mkF m) (xs.length + 2 + i)) (by unfold maxLen; omega) (by omega) rfl rfl (fun v3 => ?_)
        (refine hx_plain rfl ?_; refine h_assign rfl rfl rfl rfl ?_; refine hx_nil ?_; refine hq_norm_block ?_; refine hq_then ?_; refine hc_lex ?_; refine hx_plain rfl ?_; refine h_move rfl rfl rfl rfl ?_; refine hx_plain rfl ?_; refine h_arithI rfl rfl rfl rfl (by omega) rfl rfl ?_; refine hx_plain rfl ?_; refine h_assign rfl rfl rfl rfl ?_; refine hx_nil ?_)
        rw [show ((xs.length + 2 + i : Nat) : Int) + 1 = ((xs.length + 2 + (i + 1) : Nat) : Int) by omega]
        refine hq_round (i + 1, v3) (by show 90 - (i + 1) < 90 - i; omega) (by show i + 1 ≤ 90; omega) (.cons rfl (.cons rfl (.cons rfl (.cons rfl (.cons rfl (.cons rfl (.cons rfl .nil))))))) (fun _ h => ?_)
        refine St.pool_sub (ents := [(v, xs.length), (v1, xs.length + 1), (v2, xs.length + 2 + i)] ++ [(v3, xs.length + 2 + i + 1)]) ?_ (h.sub (.cons .head (.cons (.tail .head) (.cons (.tail .head) (.cons (.tail .head) (.cons (.tail .head) .nil))))))
        intro q hq
        simp at hq ⊢
        rcases hq with rfl | rfl | rfl
        · exact .inl rfl
        · exact .inr (.inl rfl)
        · exact .inr (.inr (.inr rfl))
      · obtain rfl : i = 90 := by omega
        (refine hc_seq ?_; refine hc_seq ?_; refine hc_lex ?_; refine hx_plain rfl ?_; refine h_move rfl rfl rfl rfl ?_; refine hx_plain rfl ?_; refine h_move rfl rfl rfl rfl ?_; refine hx_plain rfl ?_; refine h_arithI rfl rfl rfl rfl (by omega) rfl rfl ?_; refine hx_plain rfl ?_; refine h_cmp rfl rfl rfl rfl rfl rfl ?_; refine hx_nil ?_; refine hq_then ?_; refine hc_condDF rfl (by omega) ?_; refine hc_exit ?_; refine hq_exit_then ?_; refine hq_exit_then ?_)
        exact hq_cut v2 trivial (.cons rfl (.cons rfl (.cons rfl (.cons rfl (.cons rfl (.cons rfl .nil)))))) (fun _ h => h)
    · rintro v2 _
      refine hq_st (C' := St w F [Holds byteE [(v, Seq (mkF m) xs.length), (v1, Seq (mkF m) (xs.length + 1)), (v2, Seq (mkF m) (xs.length + 92))], Blk p (.cells #[vL, vN] 40 (0, 0)), RowV slE 22 vL (ents.map (·.1)), RowV intE 3 vN (ents.map fun q => (q.2 : Int)), Holds byteE (bkH ents)]) (fun _ h => by have h2 := h.pool_holds; simp only [List.map_cons, List.map_nil] at h2; exact h2) ?_
      refine hq_know (fun _ h => And.intro (h.hold_shape (v := v) (xs := Seq (mkF m) xs.length) .head (.head _)) (And.intro (h.hold_shape (v := v1) (xs := Seq (mkF m) (xs.length + 1)) .head (.tail _ (.head _))) (h.hold_shape (v := v2) (xs := Seq (mkF m) (xs.length + 92)) .head (.tail _ (.tail _ (.head _)))))) ?_
      simp only [Seq.len]
      rintro ⟨⟨a, c, rfl, _⟩, ⟨a1, c1, rfl, _⟩, ⟨a2, c2, rfl, _⟩⟩
      (refine hq_exit_block ?_; refine hq_then ?_; refine hc_seq ?_; refine hc_lex ?_; refine hx_plain rfl ?_; refine h_move rfl rfl rfl rfl ?_; refine hx_plain rfl ?_; refine h_move rfl rfl rfl rfl ?_; refine hx_plain rfl ?_; refine h_nilCheck rfl rfl rfl rfl ?_; refine hx_plain rfl ?_; refine h_fieldAddr0 rfl rfl FC.out rfl rfl ?_; refine hx_plain rfl ?_; refine h_load rfl rfl UC.out rfl (.tail .head) rfl rfl rfl ?_; refine hx_plain rfl ?_; refine h_move rfl rfl rfl rfl ?_; refine hx_plain rfl ?_; refine h_move rfl rfl rfl rfl ?_; refine hx_plain rfl ?_; refine h_move rfl rfl rfl rfl ?_; refine hx_plain rfl ?_; (refine h_buildSlice rfl rfl rfl UC.out IC.size IC.zero rfl rfl (by intro v hv; simp at hv; first | (subst hv; rfl) | (rcases hv with rfl | rfl <;> rfl) | (rcases hv with rfl | rfl | rfl <;> rfl)) (by omega) rfl rfl (fun _ => ?_)); refine hx_plain rfl ?_)
      refine h_appendR (m := 3) (E := slE) (T := 22) (xs := ents.map (·.1)) (ys := [⟨a, xs.length, c⟩, ⟨a1, xs.length + 1, c1⟩, ⟨a2, xs.length + 92, c2⟩]) rfl rfl rfl rfl rfl UC.out IC.out rfl (.cons (.tail (.tail (.tail .head))) (.cons .head .nil)) rfl rfl (flat_row slE _) (by unfold maxLen; omega) (by omega) rfl rfl (fun gL cL => ?_)
      (refine hx_plain rfl ?_; refine h_nilCheck rfl rfl rfl rfl ?_; refine hx_plain rfl ?_; refine h_fieldAddr0 rfl rfl FC.out rfl rfl ?_; refine hx_plain rfl ?_; refine h_store rfl rfl rfl rfl rfl rfl IC.size (.tail (.tail (.tail .head))) rfl rfl (Nat.le_of_ble_eq_true rfl) (List.all_eq_true.1 rfl) ?_; refine hx_nil ?_; refine hq_then ?_; refine hc_lex ?_; refine hx_plain rfl ?_; refine h_move rfl rfl rfl rfl ?_; refine hx_plain rfl ?_; refine h_move rfl rfl rfl rfl ?_; refine hx_plain rfl ?_; refine h_nilCheck rfl rfl rfl rfl ?_; refine hx_plain rfl ?_; refine h_fieldAddr0 rfl rfl FC.out rfl rfl ?_; refine hx_plain rfl ?_; refine h_load rfl rfl UC.out rfl .head rfl rfl rfl ?_; refine hx_plain rfl ?_; refine h_move rfl rfl rfl rfl ?_; refine hx_plain rfl ?_; refine h_move rfl rfl rfl rfl ?_; refine hx_plain rfl ?_; refine h_arithI rfl rfl rfl rfl (by omega) rfl rfl ?_; refine hx_plain rfl ?_; refine h_move rfl rfl rfl rfl ?_; refine hx_plain rfl ?_; refine h_arithI rfl rfl rfl rfl (by omega) rfl rfl ?_; refine hx_plain rfl ?_; (refine h_buildSlice rfl rfl rfl UC.out IC.size IC.zero rfl rfl (by intro v hv; simp at hv; first | (subst hv; rfl) | (rcases hv with rfl | rfl <;> rfl) | (rcases hv with rfl | rfl | rfl <;> rfl)) (by omega) rfl rfl (fun _ => ?_)); refine hx_plain rfl ?_)
      refine h_appendR (m := 3) (E := intE) (T := 3) (xs := ents.map (fun q => (q.2 : Int))) (ys := [(xs.length : Int), (xs.length : Int) + 1, (xs.length : Int) + 92]) rfl rfl rfl rfl rfl UC.out IC.out rfl (.cons (.tail (.tail (.tail (.tail (.tail .head))))) (.cons .head .nil)) rfl rfl (flat_row intE _) (by unfold maxLen; omega) (by omega) rfl rfl (fun gN cN => ?_)
      (refine hx_plain rfl ?_; refine h_nilCheck rfl rfl rfl rfl ?_; refine hx_plain rfl ?_; refine h_fieldAddr0 rfl rfl FC.out rfl rfl ?_; refine hx_plain rfl ?_; refine h_store rfl rfl rfl rfl rfl rfl IC.size (.tail (.tail .head)) rfl rfl (Nat.le_of_ble_eq_true rfl) (List.all_eq_true.1 rfl) ?_; refine hx_nil ?_)
      refine hq_ret0 (.inl rfl) rfl ⟨rfl, ents ++ [(⟨a, xs.length, c⟩, xs.length), (⟨a1, xs.length + 1, c1⟩, xs.length + 1), (⟨a2, xs.length + 92, c2⟩, xs.length + 92)], by simp, ⟨?_, ?_⟩, rfl⟩ (fun _ h => ?_)
      · have := h3.1
        rw [List.length_append]
        show (ents.length + 3) % 3 = 0
        omega
      · intro q hq
        rcases List.mem_append.1 hq with hq | hq
        · exact h3.2 q hq
        · simp at hq
          rcases hq with rfl | rfl | rfl <;> (dsimp only; omega)
      have h5 := (h.sub (M := [Row intE 3 gN cN _, Row slE 22 gL cL _, Blk p _, Holds byteE (bkH ents), Holds byteE _]) (.cons (.tail .head) (.cons (.tail (.tail .head)) (.cons .head (.cons (.tail (.tail (.tail .head))) (.cons (.tail (.tail .head)) .nil)))))).rowV_mk
      have h6 := (h5.perm (List.Perm.swap _ _ _)).rowV_mk
      have h7 := (h6.pulls (.cons (.tail (.tail (.tail .head))) (.cons (.tail (.tail (.tail .head))) .nil))).holds_join
      apply BkO_shut (R := [])
      rw [bkH_add _ _ _ _ h3.1, List.map_append, List.map_append, ← hm]
      exact h7.pulls (.cons (.tail (.tail (.tail .head))) (.cons (.tail .head) (.cons (.tail .head) (.cons .head .nil))))
end Go.Proofs.YtjnnlfeohbidhaaDoor
