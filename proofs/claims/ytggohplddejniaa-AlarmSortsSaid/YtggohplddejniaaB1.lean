import Derived.Test.YtggohplddejniaaL3
import Derived.Test.YtggohplddejniaaEngP
namespace Go.Proofs.Ytggohplddejniaa
open Go Go.Proofs
set_option maxRecDepth 4000

/-- The mark of the i-th list. -/
def mk (i : Nat) : Int := -1 - (i : Int) / 3
/-- The book's lists, with what they hold. -/
def bkH (ents : List (SlV × Nat)) : List (Value × List Int) := ents.zipIdx.map fun q => (q.1.1.v, List.replicate q.1.2 (mk q.2))
def BkO (p : Nat) (ents : List (SlV × Nat)) : Asn := Ex fun v : Value × Value => All [Blk p (.cells #[v.1, v.2] 43), RowV slE 29 v.1 (ents.map (·.1)), RowV intE 3 v.2 (ents.map fun q => (q.2 : Int)), Holds intE (bkH ents)]
theorem BkO_open {p : Nat} {ents : List (SlV × Nat)} (w w0 : World) (F0 : Nat → Prop) (R : List Asn) (h : St w0 F0 (BkO p ents :: R) w) : ∃ v : Value × Value, St w0 F0 ([Blk p (.cells #[v.1, v.2] 43), RowV slE 29 v.1 (ents.map (·.1)), RowV intE 3 v.2 (ents.map fun q => (q.2 : Int)), Holds intE (bkH ents)] ++ R) w := by
  obtain ⟨x, hx⟩ := St.ex.1 h
  exact ⟨x, St.all.1 hx⟩
theorem BkO_shut {p : Nat} {ents : List (SlV × Nat)} {v1 v2 : Value} {w w0 : World} {F0 : Nat → Prop} {R : List Asn} (h : St w0 F0 ([Blk p (.cells #[v1, v2] 43), RowV slE 29 v1 (ents.map (·.1)), RowV intE 3 v2 (ents.map fun q => (q.2 : Int)), Holds intE (bkH ents)] ++ R) w) : St w0 F0 (BkO p ents :: R) w :=
  St.ex.2 ⟨(v1, v2), St.all.2 h⟩
theorem BkO_new {p : Nat} {w w0 : World} {F0 : Nat → Prop} {R : List Asn} (h : St w0 F0 (Blk p (.cells #[.slice none 0 0, .slice none 0 0] 43) :: R) w) : St w0 F0 (BkO p [] :: R) w := by
  have h1 : St w0 F0 (Holds intE [] :: RowV intE 3 (.slice none 0 0) [] :: RowV slE 29 (.slice none 0 0) [] :: Blk p (.cells #[.slice none 0 0, .slice none 0 0] 43) :: R) w := (St.rowV_nil (St.rowV_nil h)).holds_nil
  exact BkO_shut (h1.pulls (.cons (.tail (.tail (.tail .head))) (.cons (.tail (.tail .head)) (.cons (.tail .head) (.cons .head .nil)))))
theorem bkH_add (ents : List (SlV × Nat)) (a b c : SlV × Nat) (h3 : ents.length % 3 = 0) : bkH (ents ++ [a, b, c]) = bkH ents ++ [(a.1.v, List.replicate a.2 (mk ents.length)), (b.1.v, List.replicate b.2 (mk ents.length)), (c.1.v, List.replicate c.2 (mk ents.length))] := by
  have e1 : mk (ents.length + 1) = mk ents.length := by unfold mk; omega
  have e2 : mk (ents.length + 2) = mk ents.length := by unfold mk; omega
  simp [bkH, List.zipIdx_append, e1, e2]

set_option maxHeartbeats 4000000 in
theorem keep_spec (p : Nat) (ents : List (SlV × Nat)) (v : Value) (xs : List Int) (h3 : ents.length % 3 = 0) (hl : ents.length ≤ 4398046511104) (hx : xs.length ≤ 4398046511104) :
    Spec Try.prog 17 [.pointer (some ⟨p, 0, none⟩), v] [BkO p ents, RowV intE 3 v xs] (fun u M => u = .tuple #[] ∧ ∃ ents', ents'.length = ents.length + 3 ∧ M = [BkO p ents']) := by
  refine spec_of Try.func17 rfl rfl (Nat.le_of_ble_eq_true rfl) (fun w F => ?_)
  refine hc_open .head BkO_open ?_
  rintro ⟨vL, vN⟩
  dsimp only
  have hlen : (ents.map (·.1)).length = ents.length := List.length_map _
  have hlen2 : (ents.map (fun q => (q.2 : Int))).length = ents.length := List.length_map _
  (refine hc_seq ?_; refine hc_lex ?_; refine hx_plain rfl ?_; refine h_move rfl rfl rfl rfl ?_; refine hx_plain rfl ?_; refine h_nilCheck rfl rfl rfl rfl ?_; refine hx_plain rfl ?_; refine h_fieldAddr0 rfl rfl FC.out rfl rfl ?_; refine hx_plain rfl ?_; refine h_load rfl rfl UC.out rfl .head rfl rfl rfl ?_; refine hx_plain rfl ?_)
  refine h_lenV rfl rfl (.tail .head) rfl UC.out rfl rfl rfl ?_
  rw [hlen]
  (refine hx_plain rfl ?_; refine h_quoI rfl rfl rfl (by omega) rfl rfl ?_; refine hx_plain rfl ?_; refine h_arithI rfl rfl rfl rfl (by omega) rfl rfl ?_; refine hx_plain rfl ?_; refine h_assign rfl rfl rfl rfl ?_; refine hx_nil ?_; refine hq_then ?_; refine hc_seq ?_; refine hc_lex ?_; refine hx_plain rfl ?_; refine h_move rfl rfl rfl rfl ?_; refine hx_plain rfl ?_)
  refine h_lenV rfl rfl (.tail (.tail (.tail (.tail .head)))) rfl UC.out rfl rfl rfl ?_
  (refine hx_plain rfl ?_; refine h_assign rfl rfl rfl rfl ?_; refine hx_nil ?_; refine hq_then ?_; refine hc_seq ?_; refine hc_seq ?_; refine hc_lex ?_; refine hx_plain rfl ?_; refine h_assign rfl rfl rfl rfl ?_; refine hx_nil ?_; refine hq_then ?_; refine hc_block ?_)
  obtain ⟨m, hm⟩ : ∃ m : Int, m = -1 - (ents.length : Int) / 3 := ⟨_, rfl⟩
  rw [← hm]
  refine hc_cut (id := 0) (Y := Unit) (fun _ => [(0, .pointer (some ⟨p, 0, none⟩)), (1, v), (4, .int .i64 m), (5, .int .i64 (xs.length : Int))]) (fun _ => [Blk p (.cells #[vL, vN] 43), RowV slE 29 vL (ents.map (·.1)), RowV intE 3 vN (ents.map fun q => (q.2 : Int)), Holds intE (bkH ents), RowV intE 3 v (Seq (fun _ => m) xs.length)]) (fun _ => True) ?_ ?_
  · refine hc_loop (X := Nat) (fun i => [(0, .pointer (some ⟨p, 0, none⟩)), (1, v), (4, .int .i64 m), (5, .int .i64 (xs.length : Int)), (6, .int .i64 (i : Int))]) (fun i => [Blk p (.cells #[vL, vN] 43), RowV slE 29 vL (ents.map (·.1)), RowV intE 3 vN (ents.map fun q => (q.2 : Int)), Holds intE (bkH ents), RowV intE 3 v (filled m xs i)]) (fun i => i ≤ xs.length) (fun i => xs.length - i) 0 (.cons rfl (.cons rfl (.cons rfl (.cons rfl (.cons rfl .nil))))) (Nat.zero_le _) (fun _ h => h) ?_
    intro i hi
    by_cases hlt : i < xs.length
    · refine hc_rowV (.tail (.tail (.tail (.tail .head)))) ?_ ?_
      · intro _ e1
        have := congrArg List.length e1
        rw [filled_len hi] at this
        have h0 : xs.length = 0 := this
        omega
      · rintro g cap rfl
        rw [filled_len hi]
        have e1 : (filled m xs i)[((i : Nat) : Int).toNat]? = some xs[i] := filled_get hlt
        (refine hc_seq ?_; refine hc_seq ?_; refine hc_lex ?_; refine hx_plain rfl ?_; refine h_move rfl rfl rfl rfl ?_; refine hx_plain rfl ?_; refine h_move rfl rfl rfl rfl ?_; refine hx_plain rfl ?_; refine h_cmp rfl rfl rfl rfl rfl rfl ?_; refine hx_nil ?_; refine hq_then ?_; refine hc_condDT rfl (by omega) ?_; refine hc_skip ?_; refine hq_then ?_; refine hc_seq ?_; refine hc_block ?_; refine hc_lex ?_; refine hx_plain rfl ?_; refine h_move rfl rfl rfl rfl ?_; refine hx_plain rfl ?_; refine h_move rfl rfl rfl rfl ?_; refine hx_plain rfl ?_; refine h_move rfl rfl rfl rfl ?_; refine hx_plain rfl ?_; refine h_rowAddr rfl rfl rfl UC.out IC.size (by omega) (by omega) rfl rfl ?_; refine hx_plain rfl ?_)
        refine h_rowStoreN (z := m) rfl rfl rfl .head rfl rfl rfl IC.size e1 rfl rfl ?_
        (refine hx_nil ?_; refine hq_norm_block ?_; refine hq_then ?_; refine hc_lex ?_; refine hx_plain rfl ?_; refine h_move rfl rfl rfl rfl ?_; refine hx_plain rfl ?_; refine h_arithI rfl rfl rfl rfl (by omega) rfl rfl ?_; refine hx_plain rfl ?_; refine h_assign rfl rfl rfl rfl ?_; refine hx_nil ?_)
        refine hq_round (i + 1) (by omega) (by omega) (.cons rfl (.cons rfl (.cons rfl (.cons rfl (.cons rfl .nil))))) (fun _ h => ?_)
        have h2 : filled m xs (i + 1) = (filled m xs i).set i m := (filled_set hlt).symm
        rw [h2]
        have h3 := (show St _ _ (Row intE 3 g cap ((filled m xs i).set i m) :: _) _ from h).rowV_mk
        rw [List.length_set, filled_len hi] at h3
        exact h3.sub (.cons (.tail .head) (.cons (.tail .head) (.cons (.tail .head) (.cons (.tail .head) (.cons .head .nil)))))
    · rw [filled_all (by omega) hi]
      (refine hc_seq ?_; refine hc_seq ?_; refine hc_lex ?_; refine hx_plain rfl ?_; refine h_move rfl rfl rfl rfl ?_; refine hx_plain rfl ?_; refine h_move rfl rfl rfl rfl ?_; refine hx_plain rfl ?_; refine h_cmp rfl rfl rfl rfl rfl rfl ?_; refine hx_nil ?_; refine hq_then ?_; refine hc_condDF rfl (by omega) ?_; refine hc_exit ?_; refine hq_exit_then ?_; refine hq_exit_then ?_)
      exact hq_cut () trivial (.cons rfl (.cons rfl (.cons rfl (.cons rfl .nil)))) (fun _ h => h)
  · rintro ⟨⟩ _
    (refine hq_exit_block ?_; refine hq_then ?_; refine hc_seq ?_; refine hc_lex ?_; refine hx_plain rfl ?_; refine h_move rfl rfl rfl rfl ?_; refine hx_plain rfl ?_; refine h_move rfl rfl rfl rfl ?_; refine hx_plain rfl ?_; (refine h_buildSlice rfl rfl rfl UC.out IC.size IC.zero rfl rfl (by intro v hv; simp at hv; first | (subst hv; rfl) | (rcases hv with rfl | rfl <;> rfl) | (rcases hv with rfl | rfl | rfl <;> rfl)) (by omega) rfl rfl (fun _ => ?_)); refine hx_plain rfl ?_)
    rename_i b
    refine hx1_conv rfl rfl (C' := St w F [Pool intE 3 (fun _ => m) [(v, xs.length)], Blk b (.cells #[.int .i64 m] 3 (0, 0)), Blk p (.cells #[vL, vN] 43), RowV slE 29 vL (ents.map (·.1)), RowV intE 3 vN (ents.map fun q => (q.2 : Int)), Holds intE (bkH ents)]) (fun _ h => ?_) ?_
    · exact St.pool (h.sub (.cons (.tail (.tail (.tail (.tail (.tail .head))))) (.cons .head (.cons .head (.cons .head (.cons .head (.cons .head .nil)))))))
    refine h_poolAppend (E := intE) (T := 3) (f := fun _ => m) (l := xs.length) (m := 1) rfl rfl rfl rfl rfl UC.out IC.out rfl (.cons .head (.cons .head .nil)) (.head _) rfl (pool_const intE m 1) (by unfold maxLen; omega) (by omega) rfl rfl (fun v1 => ?_)
    (refine hx_plain rfl ?_; refine h_assign rfl rfl rfl rfl ?_; refine hx_nil ?_; refine hq_then ?_; refine hc_seq ?_; refine hc_lex ?_; refine hx_plain rfl ?_; refine h_move rfl rfl rfl rfl ?_; refine hx_plain rfl ?_; refine h_move rfl rfl rfl rfl ?_; refine hx_plain rfl ?_; refine h_move rfl rfl rfl rfl ?_; refine hx_plain rfl ?_; (refine h_buildSlice rfl rfl rfl UC.out IC.size IC.zero rfl rfl (by intro v hv; simp at hv; first | (subst hv; rfl) | (rcases hv with rfl | rfl <;> rfl) | (rcases hv with rfl | rfl | rfl <;> rfl)) (by omega) rfl rfl (fun _ => ?_)); refine hx_plain rfl ?_)
    refine h_poolAppend (E := intE) (T := 3) (f := fun _ => m) (l := xs.length) (m := 2) rfl rfl rfl rfl rfl UC.out IC.out rfl (.cons (.tail .head) (.cons .head .nil)) (.head _) rfl (pool_const intE m 2) (by unfold maxLen; omega) (by omega) rfl rfl (fun v2 => ?_)
    (refine hx_plain rfl ?_; refine h_assign rfl rfl rfl rfl ?_; refine hx_nil ?_; refine hq_then ?_; refine hc_seq ?_; refine hc_seq ?_; refine hc_lex ?_; refine hx_plain rfl ?_; refine h_assign rfl rfl rfl rfl ?_; refine hx_nil ?_; refine hq_then ?_; refine hc_block ?_)
    refine hc_cut (id := 2) (Y := Value) (fun v2 => [(0, .pointer (some ⟨p, 0, none⟩)), (1, v), (4, .int .i64 m), (5, .int .i64 (xs.length : Int)), (7, v1), (8, v2)]) (fun v2 => [Pool intE 3 (fun _ => m) [(v, xs.length), (v1, xs.length + 1), (v2, xs.length + 66)], Blk p (.cells #[vL, vN] 43), RowV slE 29 vL (ents.map (·.1)), RowV intE 3 vN (ents.map fun q => (q.2 : Int)), Holds intE (bkH ents)]) (fun _ => True) ?_ ?_
    · refine hc_loop (X := Nat × Value) (fun x => [(0, .pointer (some ⟨p, 0, none⟩)), (1, v), (4, .int .i64 m), (5, .int .i64 (xs.length : Int)), (7, v1), (8, x.2), (9, .int .i64 (x.1 : Int))]) (fun x => [Pool intE 3 (fun _ => m) [(v, xs.length), (v1, xs.length + 1), (x.2, xs.length + 2 + x.1)], Blk p (.cells #[vL, vN] 43), RowV slE 29 vL (ents.map (·.1)), RowV intE 3 vN (ents.map fun q => (q.2 : Int)), Holds intE (bkH ents)]) (fun x => x.1 ≤ 64) (fun x => 64 - x.1) (0, v2) (.cons rfl (.cons rfl (.cons rfl (.cons rfl (.cons rfl (.cons rfl (.cons rfl .nil))))))) (Nat.zero_le _) (fun _ h => h.sub (.cons .head (.cons (.tail (.tail .head)) (.cons (.tail (.tail .head)) (.cons (.tail (.tail .head)) (.cons (.tail (.tail .head)) .nil)))))) ?_
      rintro ⟨i, v2⟩ hi
      dsimp only at hi ⊢
      by_cases hlt : i < 64
      · (refine hc_seq ?_; refine hc_seq ?_; refine hc_lex ?_; refine hx_plain rfl ?_; refine h_move rfl rfl rfl rfl ?_; refine hx_plain rfl ?_; refine h_cmp rfl rfl rfl rfl rfl rfl ?_; refine hx_nil ?_; refine hq_then ?_; refine hc_condDT rfl (by omega) ?_; refine hc_skip ?_; refine hq_then ?_; refine hc_seq ?_; refine hc_block ?_; refine hc_lex ?_; refine hx_plain rfl ?_; refine h_move rfl rfl rfl rfl ?_; refine hx_plain rfl ?_; refine h_move rfl rfl rfl rfl ?_; refine hx_plain rfl ?_; (refine h_buildSlice rfl rfl rfl UC.out IC.size IC.zero rfl rfl (by intro v hv; simp at hv; first | (subst hv; rfl) | (rcases hv with rfl | rfl <;> rfl) | (rcases hv with rfl | rfl | rfl <;> rfl)) (by omega) rfl rfl (fun _ => ?_)); refine hx_plain rfl ?_)
        refine h_poolAppend (E := intE) (T := 3) (f := fun _ => m) (l := xs.length + 2 + i) (m := 1) rfl rfl rfl rfl rfl UC.out IC.out rfl (.cons (.tail .head) (.cons .head .nil)) (.tail _ (.tail _ (.head _))) rfl (pool_const intE m 1) (by unfold maxLen; omega) (by omega) rfl rfl (fun v3 => ?_)
        (refine hx_plain rfl ?_; refine h_assign rfl rfl rfl rfl ?_; refine hx_nil ?_; refine hq_norm_block ?_; refine hq_then ?_; refine hc_lex ?_; refine hx_plain rfl ?_; refine h_move rfl rfl rfl rfl ?_; refine hx_plain rfl ?_; refine h_arithI rfl rfl rfl rfl (by omega) rfl rfl ?_; refine hx_plain rfl ?_; refine h_assign rfl rfl rfl rfl ?_; refine hx_nil ?_)
        refine hq_round (i + 1, v3) (by show 64 - (i + 1) < 64 - i; omega) (by show i + 1 ≤ 64; omega) (.cons rfl (.cons rfl (.cons rfl (.cons rfl (.cons rfl (.cons rfl (.cons rfl .nil))))))) (fun _ h => ?_)
        refine St.pool_sub (ents := [(v, xs.length), (v1, xs.length + 1), (v2, xs.length + 2 + i)] ++ [(v3, xs.length + 2 + i + 1)]) ?_ (h.sub (.cons .head (.cons (.tail .head) (.cons (.tail .head) (.cons (.tail .head) (.cons (.tail .head) .nil))))))
        intro q hq
        simp at hq ⊢
        rcases hq with rfl | rfl | rfl
        · exact .inl rfl
        · exact .inr (.inl rfl)
        · exact .inr (.inr (.inr rfl))
      · obtain rfl : i = 64 := by omega
        (refine hc_seq ?_; refine hc_seq ?_; refine hc_lex ?_; refine hx_plain rfl ?_; refine h_move rfl rfl rfl rfl ?_; refine hx_plain rfl ?_; refine h_cmp rfl rfl rfl rfl rfl rfl ?_; refine hx_nil ?_; refine hq_then ?_; refine hc_condF rfl ?_; refine hc_exit ?_; refine hq_exit_then ?_; refine hq_exit_then ?_)
        exact hq_cut v2 trivial (.cons rfl (.cons rfl (.cons rfl (.cons rfl (.cons rfl (.cons rfl .nil)))))) (fun _ h => h)
    · rintro v2 _
      refine hq_st (C' := St w F [Holds intE [(v, List.replicate xs.length m), (v1, List.replicate (xs.length + 1) m), (v2, List.replicate (xs.length + 66) m)], Blk p (.cells #[vL, vN] 43), RowV slE 29 vL (ents.map (·.1)), RowV intE 3 vN (ents.map fun q => (q.2 : Int)), Holds intE (bkH ents)]) (fun _ h => ?_) ?_
      · have h2 := h.pool_holds
        simp only [List.map_cons, List.map_nil, Seq.const] at h2
        exact h2
      refine hq_know (fun _ h => And.intro (h.hold_shape (v := v) (xs := List.replicate xs.length m) .head (.head _)) (And.intro (h.hold_shape (v := v1) (xs := List.replicate (xs.length + 1) m) .head (.tail _ (.head _))) (h.hold_shape (v := v2) (xs := List.replicate (xs.length + 66) m) .head (.tail _ (.tail _ (.head _)))))) ?_
      simp only [List.length_replicate]
      rintro ⟨⟨a, c, rfl, _⟩, ⟨a1, c1, rfl, _⟩, ⟨a2, c2, rfl, _⟩⟩
      (refine hq_exit_block ?_; refine hq_then ?_; refine hc_seq ?_; refine hc_lex ?_; refine hx_plain rfl ?_; refine h_move rfl rfl rfl rfl ?_; refine hx_plain rfl ?_; refine h_move rfl rfl rfl rfl ?_; refine hx_plain rfl ?_; refine h_nilCheck rfl rfl rfl rfl ?_; refine hx_plain rfl ?_; refine h_fieldAddr0 rfl rfl FC.out rfl rfl ?_; refine hx_plain rfl ?_; refine h_load rfl rfl UC.out rfl (.tail .head) rfl rfl rfl ?_; refine hx_plain rfl ?_; refine h_move rfl rfl rfl rfl ?_; refine hx_plain rfl ?_; refine h_move rfl rfl rfl rfl ?_; refine hx_plain rfl ?_; refine h_move rfl rfl rfl rfl ?_; refine hx_plain rfl ?_; (refine h_buildSlice rfl rfl rfl UC.out IC.size IC.zero rfl rfl (by intro v hv; simp at hv; first | (subst hv; rfl) | (rcases hv with rfl | rfl <;> rfl) | (rcases hv with rfl | rfl | rfl <;> rfl)) (by omega) rfl rfl (fun _ => ?_)); refine hx_plain rfl ?_)
      refine h_appendR (m := 3) (E := slE) (T := 29) (xs := ents.map (·.1)) (ys := [⟨a, xs.length, c⟩, ⟨a1, xs.length + 1, c1⟩, ⟨a2, xs.length + 66, c2⟩]) rfl rfl rfl rfl rfl UC.out IC.out rfl (.cons (.tail (.tail (.tail .head))) (.cons .head .nil)) rfl rfl (flat_row slE _) (by unfold maxLen; omega) (by omega) rfl rfl (fun gL cL => ?_)
      (refine hx_plain rfl ?_; refine h_nilCheck rfl rfl rfl rfl ?_; refine hx_plain rfl ?_; refine h_fieldAddr0 rfl rfl FC.out rfl rfl ?_; refine hx_plain rfl ?_; refine h_store rfl rfl rfl rfl rfl rfl IC.size (.tail (.tail (.tail .head))) rfl rfl (Nat.le_of_ble_eq_true rfl) (List.all_eq_true.1 rfl) ?_; refine hx_nil ?_; refine hq_then ?_; refine hc_lex ?_; refine hx_plain rfl ?_; refine h_move rfl rfl rfl rfl ?_; refine hx_plain rfl ?_; refine h_move rfl rfl rfl rfl ?_; refine hx_plain rfl ?_; refine h_nilCheck rfl rfl rfl rfl ?_; refine hx_plain rfl ?_; refine h_fieldAddr0 rfl rfl FC.out rfl rfl ?_; refine hx_plain rfl ?_; refine h_load rfl rfl UC.out rfl .head rfl rfl rfl ?_; refine hx_plain rfl ?_; refine h_move rfl rfl rfl rfl ?_; refine hx_plain rfl ?_; refine h_move rfl rfl rfl rfl ?_; refine hx_plain rfl ?_; refine h_arithI rfl rfl rfl rfl (by omega) rfl rfl ?_; refine hx_plain rfl ?_; refine h_move rfl rfl rfl rfl ?_; refine hx_plain rfl ?_; refine h_arithI rfl rfl rfl rfl (by omega) rfl rfl ?_; refine hx_plain rfl ?_; (refine h_buildSlice rfl rfl rfl UC.out IC.size IC.zero rfl rfl (by intro v hv; simp at hv; first | (subst hv; rfl) | (rcases hv with rfl | rfl <;> rfl) | (rcases hv with rfl | rfl | rfl <;> rfl)) (by omega) rfl rfl (fun _ => ?_)); refine hx_plain rfl ?_)
      refine h_appendR (m := 3) (E := intE) (T := 3) (xs := ents.map (fun q => (q.2 : Int))) (ys := [(xs.length : Int), (xs.length : Int) + 1, (xs.length : Int) + 66]) rfl rfl rfl rfl rfl UC.out IC.out rfl (.cons (.tail (.tail (.tail (.tail (.tail .head))))) (.cons .head .nil)) rfl rfl (flat_row intE _) (by unfold maxLen; omega) (by omega) rfl rfl (fun gN cN => ?_)
      (refine hx_plain rfl ?_; refine h_nilCheck rfl rfl rfl rfl ?_; refine hx_plain rfl ?_; refine h_fieldAddr0 rfl rfl FC.out rfl rfl ?_; refine hx_plain rfl ?_; refine h_store rfl rfl rfl rfl rfl rfl IC.size (.tail (.tail .head)) rfl rfl (Nat.le_of_ble_eq_true rfl) (List.all_eq_true.1 rfl) ?_; refine hx_nil ?_)
      refine hq_ret0 (.inl rfl) rfl ⟨rfl, ents ++ [(⟨a, xs.length, c⟩, xs.length), (⟨a1, xs.length + 1, c1⟩, xs.length + 1), (⟨a2, xs.length + 66, c2⟩, xs.length + 66)], by simp, rfl⟩ (fun _ h => ?_)
      have h5 := (h.sub (M := [Row intE 3 gN cN _, Row slE 29 gL cL _, Blk p _, Holds intE (bkH ents), Holds intE _]) (.cons (.tail .head) (.cons (.tail (.tail .head)) (.cons .head (.cons (.tail (.tail (.tail .head))) (.cons (.tail (.tail .head)) .nil)))))).rowV_mk
      have h6 := (h5.perm (List.Perm.swap _ _ _)).rowV_mk
      have h7 := (h6.pulls (.cons (.tail (.tail (.tail .head))) (.cons (.tail (.tail (.tail .head))) .nil))).holds_join
      apply BkO_shut (R := [])
      rw [bkH_add _ _ _ _ h3, List.map_append, List.map_append]
      unfold mk
      rw [← hm]
      exact h7.pulls (.cons (.tail (.tail (.tail .head))) (.cons (.tail .head) (.cons (.tail .head) (.cons .head .nil))))
end Go.Proofs.Ytggohplddejniaa
