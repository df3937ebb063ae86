import Derived.Test.YtbelfaoolnijiaaNM1
import Derived.Test.YtbelfaoolnijiaaEngV
namespace Go.Proofs.Ytbelfaoolnijiaa
open Go Go.Proofs Go.RowKit
set_option maxRecDepth 4000

/-- The first j of a list overwritten by m. -/
def fiH (m : ByteArray) (xs : List ByteArray) (j : Nat) : List ByteArray := List.replicate j m ++ xs.drop j
theorem fiH_len {m : ByteArray} {xs : List ByteArray} {j : Nat} (h : j ≤ xs.length) : (fiH m xs j).length = xs.length := by
  unfold fiH
  rw [List.length_append, List.length_replicate, List.length_drop]
  omega
theorem fiH_get {m : ByteArray} {xs : List ByteArray} {j : Nat} (h : j < xs.length) : (fiH m xs j)[j]? = some xs[j] := by
  unfold fiH
  rw [List.getElem?_append_right (by rw [List.length_replicate]; exact Nat.le_refl _), List.length_replicate, Nat.sub_self, List.getElem?_drop, Nat.add_zero, List.getElem?_eq_getElem h]
theorem fiH_set {m : ByteArray} {xs : List ByteArray} {j : Nat} (h : j < xs.length) : (fiH m xs j).set j m = fiH m xs (j + 1) := by
  unfold fiH
  rw [List.set_append_right _ _ (by rw [List.length_replicate]; exact Nat.le_refl _), List.length_replicate, Nat.sub_self, List.drop_eq_getElem_cons h, List.set_cons_zero, List.replicate_succ', List.append_assoc]
  rfl
theorem fiH_all {m : ByteArray} {xs : List ByteArray} {j : Nat} (h : xs.length ≤ j) (h2 : j ≤ xs.length) : fiH m xs j = List.replicate xs.length m := by
  obtain rfl : j = xs.length := by omega
  unfold fiH
  rw [List.drop_length, List.append_nil]
/-- A list of the book: where it lies, its mark, how many it holds. -/
structure BnM where
  sl : SlV
  mark : ByteArray
  n : Nat
def bnH (ents : List BnM) : List (Value × List ByteArray) := ents.map fun q => (q.sl.v, List.replicate q.n q.mark)
theorem bnH_mem {ents : List BnM} {i : Nat} {q : BnM} (h : ents[i]? = some q) : (q.sl.v, List.replicate q.n q.mark) ∈ bnH ents :=
  List.mem_map_of_mem (f := fun q : BnM => (q.sl.v, List.replicate q.n q.mark)) (List.mem_iff_getElem?.2 ⟨i, h⟩)
def bkL (p : Nat) (ents : List BnM) (x : Value × Value) : List Asn := [Blk p (.cells #[x.1, x.2] 45 (0, 0)), RowV slE 22 x.1 (ents.map BnM.sl), RowV strE 9 x.2 (ents.map BnM.mark), Holds strE (bnH ents)]
def BkO (p : Nat) (ents : List BnM) : Asn := Ex fun x : Value × Value => All (bkL p ents x)
theorem BkO_open {p : Nat} {ents : List BnM} (w w0 : World) (F0 : Nat → Prop) (R : List Asn) (h : St w0 F0 (BkO p ents :: R) w) : ∃ x : Value × Value, St w0 F0 (bkL p ents x ++ R) w := by
  obtain ⟨x, hx⟩ := St.ex.1 h
  exact ⟨x, St.all.1 hx⟩
theorem BkO_shut {p : Nat} {ents : List BnM} (x : Value × Value) {w w0 : World} {F0 : Nat → Prop} {R : List Asn} (h : St w0 F0 (bkL p ents x ++ R) w) : St w0 F0 (BkO p ents :: R) w :=
  St.ex.2 ⟨x, St.all.2 h⟩
theorem BkO_new {p : Nat} {w w0 : World} {F0 : Nat → Prop} {R : List Asn} (h : St w0 F0 (Blk p (.cells #[.slice none 0 0, .slice none 0 0] 45 (0, 0)) :: R) w) : St w0 F0 (BkO p [] :: R) w := by
  have h1 : St w0 F0 (Holds strE [] :: RowV strE 9 (.slice none 0 0) [] :: RowV slE 22 (.slice none 0 0) [] :: Blk p (.cells #[.slice none 0 0, .slice none 0 0] 45 (0, 0)) :: R) w := (St.rowV_nil (St.rowV_nil h)).holds_nil
  exact BkO_shut (.slice none 0 0, .slice none 0 0) (h1.pulls (.cons (.tail (.tail (.tail .head))) (.cons (.tail (.tail .head)) (.cons (.tail .head) (.cons .head .nil)))))
set_option maxHeartbeats 4000000 in
theorem keepN_spec {p : Nat} {ents : List BnM} {sl : SlV} {m : ByteArray} {xs : List ByteArray} (hl : ents.length ≤ 1000000) (hx : xs.length ≤ 1000) :
    Spec Try.prog 22 [.pointer (some ⟨p, 0, none⟩), sl.v, .string m] [BkO p ents, RowV strE 9 sl.v xs] (fun u M => u = .tuple #[] ∧ ∃ ents', ents'.length = ents.length + 2 ∧ M = [BkO p ents']) := by
  refine spec_of Try.func22 rfl rfl (Nat.le_of_ble_eq_true rfl) (fun w F => ?_)
  refine hc_open .head BkO_open ?_
  rintro ⟨vL, vM⟩
  unfold bkL
  obtain ⟨sa, sn, sc⟩ := sl
  refine hc_know (fun _ h => St.rowV_shapeS h (.tail (.tail (.tail (.tail .head))))) ?_
  rintro ⟨a3, c3, e⟩
  injection e with e1' e2' e3'
  dsimp only at e1' e2' e3'
  subst e1' e2' e3'
  dsimp only [SlV.v]
  have hlL : (ents.map BnM.sl).length = ents.length := List.length_map _
  have hlM : (ents.map BnM.mark).length = ents.length := List.length_map _
  (refine hc_seq ?_; refine hc_seq ?_; refine hc_lex ?_; refine hx_plain rfl ?_; refine h_assign rfl rfl rfl rfl ?_; refine hx_nil ?_; refine hq_then ?_; refine hc_block ?_)
  refine hc_cut (id := 0) (Y := Unit) (fun _ => [(0, .pointer (some ⟨p, 0, none⟩)), (1, .slice sa xs.length sc), (2, .string m)]) (fun _ => [Blk p (.cells #[vL, vM] 45 (0, 0)), RowV slE 22 vL (ents.map BnM.sl), RowV strE 9 vM (ents.map BnM.mark), Holds strE (bnH ents), RowV strE 9 (.slice sa xs.length sc) (List.replicate xs.length m)]) (fun _ => True) ?_ ?_
  · refine hc_loop (X := Nat) (fun i => [(0, .pointer (some ⟨p, 0, none⟩)), (1, .slice sa xs.length sc), (2, .string m), (6, .int .i64 (i : Int))]) (fun i => [Blk p (.cells #[vL, vM] 45 (0, 0)), RowV slE 22 vL (ents.map BnM.sl), RowV strE 9 vM (ents.map BnM.mark), Holds strE (bnH ents), RowV strE 9 (.slice sa xs.length sc) (fiH m xs i)]) (fun i => i ≤ xs.length) (fun i => xs.length - i) 0 (.cons rfl (.cons rfl (.cons rfl (.cons rfl .nil)))) (Nat.zero_le _) (fun _ h => h) ?_
    intro i hi
    by_cases hlt : i < xs.length
    · refine hc_rowV (.tail (.tail (.tail (.tail .head)))) ?_ ?_
      · intro _ e1
        have := congrArg List.length e1
        rw [fiH_len hi] at this
        have h0 : xs.length = 0 := this
        omega
      · rintro g cap e
        rw [fiH_len hi] at e
        injection e with e1' e2' e3'
        subst e1' e3'
        have e1 : (fiH m xs i)[((i : Nat) : Int).toNat]? = some xs[i] := fiH_get hlt
        (refine hc_seq ?_; refine hc_seq ?_; refine hc_lex ?_; refine hx_plain rfl ?_; refine h_move rfl rfl rfl rfl ?_; refine hx_plain rfl ?_; refine h_move rfl rfl rfl rfl ?_; refine hx_plain rfl ?_; refine h_len_slice rfl rfl rfl UC.out rfl rfl rfl ?_; refine hx_plain rfl ?_; refine h_cmp rfl rfl rfl rfl rfl rfl ?_; refine hx_nil ?_; refine hq_then ?_; refine hc_condDT rfl (by first | omega | (dsimp only; omega)) ?_; refine hc_skip ?_; refine hq_then ?_; refine hc_seq ?_; refine hc_block ?_; refine hc_lex ?_; refine hx_plain rfl ?_; refine h_move rfl rfl rfl rfl ?_; refine hx_plain rfl ?_; refine h_move rfl rfl rfl rfl ?_; refine hx_plain rfl ?_; refine h_move rfl rfl rfl rfl ?_; refine hx_plain rfl ?_; refine h_rowAddr rfl rfl rfl UC.out IC.size (by first | omega | (dsimp only; omega)) (by first | omega | (dsimp only; omega)) rfl rfl ?_; refine hx_plain rfl ?_)
        refine h_rowStoreN (z := m) rfl rfl rfl .head rfl rfl rfl IC.size e1 rfl rfl ?_
        (refine hx_nil ?_; refine hq_norm_block ?_; refine hq_then ?_; refine hc_lex ?_; refine hx_plain rfl ?_; refine h_move rfl rfl rfl rfl ?_; refine hx_plain rfl ?_; refine h_arithI rfl rfl rfl rfl (by first | omega | (dsimp only; omega)) rfl rfl ?_; refine hx_plain rfl ?_; refine h_assign rfl rfl rfl rfl ?_; refine hx_nil ?_)
        refine hq_round (i + 1) (by omega) (by omega) (.cons rfl (.cons rfl (.cons rfl (.cons rfl .nil)))) (fun _ h => ?_)
        have h2 : fiH m xs (i + 1) = (fiH m xs i).set i m := (fiH_set hlt).symm
        rw [h2]
        have h3 := (show St _ _ (Row strE 9 g sc ((fiH m xs i).set i m) :: _) _ from h).rowV_mk
        rw [List.length_set, fiH_len hi] at h3
        exact h3.sub (.cons (.tail .head) (.cons (.tail .head) (.cons (.tail .head) (.cons (.tail .head) (.cons .head .nil)))))
    · rw [fiH_all (by omega) hi]
      (refine hc_seq ?_; refine hc_seq ?_; refine hc_lex ?_; refine hx_plain rfl ?_; refine h_move rfl rfl rfl rfl ?_; refine hx_plain rfl ?_; refine h_move rfl rfl rfl rfl ?_; refine hx_plain rfl ?_; refine h_len_slice rfl rfl rfl UC.out rfl rfl rfl ?_; refine hx_plain rfl ?_; refine h_cmp rfl rfl rfl rfl rfl rfl ?_; refine hx_nil ?_; refine hq_then ?_; refine hc_condDF rfl (by first | omega | (dsimp only; omega)) ?_; refine hc_exit ?_; refine hq_exit_then ?_; refine hq_exit_then ?_)
      exact hq_cut () trivial (.cons rfl (.cons rfl (.cons rfl .nil))) (fun _ h => h)
  · rintro ⟨⟩ _
    refine hq_st (C' := St w F [Pool strE 9 (fun _ => m) [(.slice sa xs.length sc, xs.length)], Blk p (.cells #[vL, vM] 45 (0, 0)), RowV slE 22 vL (ents.map BnM.sl), RowV strE 9 vM (ents.map BnM.mark), Holds strE (bnH ents)]) (fun w' h => ?_) ?_
    · have h1 := h.pulls (M := [RowV strE 9 (.slice sa xs.length sc) _]) (.cons (.tail (.tail (.tail (.tail .head)))) .nil)
      rw [← Seq.const] at h1
      exact St.pool h1
    (refine hq_exit_block ?_; refine hq_then ?_; refine hc_seq ?_; refine hc_lex ?_; refine hx_plain rfl ?_; refine h_move rfl rfl rfl rfl ?_; refine hx_plain rfl ?_; refine h_assign rfl rfl rfl rfl ?_; refine hx_nil ?_; refine hq_then ?_; refine hc_seq ?_; refine hc_seq ?_; refine hc_lex ?_; refine hx_plain rfl ?_; refine h_assign rfl rfl rfl rfl ?_; refine hx_nil ?_; refine hq_then ?_; refine hc_block ?_)
    refine hc_cut (id := 2) (Y := Value) (fun v2 => [(0, .pointer (some ⟨p, 0, none⟩)), (1, .slice sa xs.length sc), (2, .string m), (7, v2)]) (fun v2 => [Pool strE 9 (fun _ => m) [(.slice sa xs.length sc, xs.length), (v2, xs.length + 70)], Blk p (.cells #[vL, vM] 45 (0, 0)), RowV slE 22 vL (ents.map BnM.sl), RowV strE 9 vM (ents.map BnM.mark), Holds strE (bnH ents)]) (fun _ => True) ?_ ?_
    · refine hc_loop (X := Nat × Value) (fun x => [(0, .pointer (some ⟨p, 0, none⟩)), (1, .slice sa xs.length sc), (2, .string m), (7, x.2), (8, .int .i64 (x.1 : Int))]) (fun x => [Pool strE 9 (fun _ => m) [(.slice sa xs.length sc, xs.length), (x.2, xs.length + x.1)], Blk p (.cells #[vL, vM] 45 (0, 0)), RowV slE 22 vL (ents.map BnM.sl), RowV strE 9 vM (ents.map BnM.mark), Holds strE (bnH ents)]) (fun x => x.1 ≤ 70) (fun x => 70 - x.1) (0, .slice sa xs.length sc) (.cons rfl (.cons rfl (.cons rfl (.cons rfl (.cons rfl .nil))))) (Nat.zero_le _) (fun w' h => ?_) ?_
      · refine St.pool_sub (ents := [(.slice sa xs.length sc, xs.length)]) ?_ h
        intro q hq
        simp at hq ⊢
        exact hq
      rintro ⟨j, v2⟩ hj
      dsimp only at hj ⊢
      by_cases hlt : j < 70
      · (refine hc_seq ?_; refine hc_seq ?_; refine hc_lex ?_; refine hx_plain rfl ?_; refine h_move rfl rfl rfl rfl ?_; refine hx_plain rfl ?_; refine h_cmp rfl rfl rfl rfl rfl rfl ?_; refine hx_nil ?_; refine hq_then ?_; refine hc_condDT rfl (by first | omega | (dsimp only; omega)) ?_; refine hc_skip ?_; refine hq_then ?_; refine hc_seq ?_; refine hc_block ?_; refine hc_lex ?_; refine hx_plain rfl ?_; refine h_move rfl rfl rfl rfl ?_; refine hx_plain rfl ?_; refine h_move rfl rfl rfl rfl ?_; refine hx_plain rfl ?_; (refine h_buildSlice rfl rfl rfl UC.out IC.size IC.zero rfl rfl (by intro v hv; simp at hv; first | (subst hv; rfl) | (rcases hv with rfl | rfl <;> rfl) | (rcases hv with rfl | rfl | rfl <;> rfl)) (by first | omega | (dsimp only; omega)) rfl rfl (fun _ => ?_)); refine hx_plain rfl ?_)
        refine h_poolAppend (E := strE) (T := 9) (f := fun _ => m) (l := xs.length + j) (m := 1) rfl rfl rfl rfl rfl UC.out IC.out rfl (.cons (.tail .head) (.cons .head .nil)) (.tail _ (.head _)) rfl (pool_const strE m 1) (by unfold maxLen; omega) (by omega) rfl rfl (fun v3 => ?_)
        (refine hx_plain rfl ?_; refine h_assign rfl rfl rfl rfl ?_; refine hx_nil ?_; refine hq_norm_block ?_; refine hq_then ?_; refine hc_lex ?_; refine hx_plain rfl ?_; refine h_move rfl rfl rfl rfl ?_; refine hx_plain rfl ?_; refine h_arithI rfl rfl rfl rfl (by first | omega | (dsimp only; omega)) rfl rfl ?_; refine hx_plain rfl ?_; refine h_assign rfl rfl rfl rfl ?_; refine hx_nil ?_)
        refine hq_round (j + 1, v3) (by show 70 - (j + 1) < 70 - j; omega) (by show j + 1 ≤ 70; omega) (.cons rfl (.cons rfl (.cons rfl (.cons rfl (.cons rfl .nil))))) (fun _ h => ?_)
        refine St.pool_sub (ents := [(.slice sa xs.length sc, xs.length), (v2, xs.length + j)] ++ [(v3, xs.length + j + 1)]) ?_ (h.sub (.cons .head (.cons (.tail .head) (.cons (.tail .head) (.cons (.tail .head) (.cons (.tail .head) .nil))))))
        intro q hq
        simp at hq ⊢
        rcases hq with rfl | rfl
        · exact .inl rfl
        · exact .inr (.inr rfl)
      · obtain rfl : j = 70 := by omega
        (refine hc_seq ?_; refine hc_seq ?_; refine hc_lex ?_; refine hx_plain rfl ?_; refine h_move rfl rfl rfl rfl ?_; refine hx_plain rfl ?_; refine h_cmp rfl rfl rfl rfl rfl rfl ?_; refine hx_nil ?_; refine hq_then ?_; refine hc_condF rfl ?_; refine hc_exit ?_; refine hq_exit_then ?_; refine hq_exit_then ?_)
        exact hq_cut v2 trivial (.cons rfl (.cons rfl (.cons rfl (.cons rfl .nil)))) (fun _ h => h)
    rintro v2 _
    refine hq_st (C' := St w F [Holds strE [(.slice sa xs.length sc, List.replicate xs.length m), (v2, List.replicate (xs.length + 70) m)], Blk p (.cells #[vL, vM] 45 (0, 0)), RowV slE 22 vL (ents.map BnM.sl), RowV strE 9 vM (ents.map BnM.mark), Holds strE (bnH ents)]) (fun _ h => ?_) ?_
    · have h2 := h.pool_holds
      simp only [List.map_cons, List.map_nil, Seq.const] at h2
      exact h2
    refine hq_know (fun _ h => h.hold_shape (v := v2) (xs := List.replicate (xs.length + 70) m) .head (.tail _ (.head _))) ?_
    rw [List.length_replicate]
    rintro ⟨a2, c2, rfl, _⟩
    (refine hq_exit_block ?_; refine hq_then ?_; refine hc_seq ?_; refine hc_lex ?_; refine hx_plain rfl ?_; refine h_move rfl rfl rfl rfl ?_; refine hx_plain rfl ?_; refine h_move rfl rfl rfl rfl ?_; refine hx_plain rfl ?_; refine h_nilCheck rfl rfl rfl rfl ?_; refine hx_plain rfl ?_; refine h_fieldAddr0 rfl rfl FC.out rfl rfl ?_; refine hx_plain rfl ?_; refine h_load rfl rfl UC.out rfl (.tail .head) rfl rfl rfl ?_; refine hx_plain rfl ?_; refine h_move rfl rfl rfl rfl ?_; refine hx_plain rfl ?_; refine h_move rfl rfl rfl rfl ?_; refine hx_plain rfl ?_; (refine h_buildSlice rfl rfl rfl UC.out IC.size IC.zero rfl rfl (by intro v hv; simp at hv; first | (subst hv; rfl) | (rcases hv with rfl | rfl <;> rfl) | (rcases hv with rfl | rfl | rfl <;> rfl)) (by first | omega | (dsimp only; omega)) rfl rfl (fun _ => ?_)); refine hx_plain rfl ?_)
    refine h_appendR (m := 2) (E := slE) (T := 22) (xs := ents.map BnM.sl) (ys := [⟨sa, xs.length, sc⟩, ⟨a2, xs.length + 70, c2⟩]) rfl rfl rfl rfl rfl UC.out IC.out rfl (.cons (.tail (.tail (.tail .head))) (.cons .head .nil)) rfl rfl (flat_row slE _) (by unfold maxLen; omega) (by omega) rfl rfl (fun gL cL => ?_)
    (refine hx_plain rfl ?_; refine h_nilCheck rfl rfl rfl rfl ?_; refine hx_plain rfl ?_; refine h_fieldAddr0 rfl rfl FC.out rfl rfl ?_; refine hx_plain rfl ?_; refine h_store rfl rfl rfl rfl rfl rfl IC.size (.tail (.tail (.tail .head))) rfl rfl (Nat.le_of_ble_eq_true rfl) (List.all_eq_true.1 rfl) ?_; refine hx_nil ?_; refine hq_then ?_; refine hc_lex ?_; refine hx_plain rfl ?_; refine h_move rfl rfl rfl rfl ?_; refine hx_plain rfl ?_; refine h_move rfl rfl rfl rfl ?_; refine hx_plain rfl ?_; refine h_nilCheck rfl rfl rfl rfl ?_; refine hx_plain rfl ?_; refine h_fieldAddr0 rfl rfl FC.out rfl rfl ?_; refine hx_plain rfl ?_; refine h_load rfl rfl UC.out rfl .head rfl rfl rfl ?_; refine hx_plain rfl ?_; refine h_move rfl rfl rfl rfl ?_; refine hx_plain rfl ?_; refine h_move rfl rfl rfl rfl ?_; refine hx_plain rfl ?_; (refine h_buildSlice rfl rfl rfl UC.out IC.size IC.zero rfl rfl (by intro v hv; simp at hv; first | (subst hv; rfl) | (rcases hv with rfl | rfl <;> rfl) | (rcases hv with rfl | rfl | rfl <;> rfl)) (by first | omega | (dsimp only; omega)) rfl rfl (fun _ => ?_)); refine hx_plain rfl ?_)
    refine h_appendR (m := 2) (E := strE) (T := 9) (xs := ents.map BnM.mark) (ys := [m, m]) rfl rfl rfl rfl rfl UC.out IC.out rfl (.cons (.tail (.tail (.tail (.tail (.tail .head))))) (.cons .head .nil)) rfl rfl (flat_row strE _) (by unfold maxLen; omega) (by omega) rfl rfl (fun gM cM => ?_)
    (refine hx_plain rfl ?_; refine h_nilCheck rfl rfl rfl rfl ?_; refine hx_plain rfl ?_; refine h_fieldAddr0 rfl rfl FC.out rfl rfl ?_; refine hx_plain rfl ?_; refine h_store rfl rfl rfl rfl rfl rfl IC.size (.tail (.tail .head)) rfl rfl (Nat.le_of_ble_eq_true rfl) (List.all_eq_true.1 rfl) ?_; refine hx_nil ?_)
    refine hq_ret0 (.inl rfl) rfl ⟨rfl, ents ++ [BnM.mk ⟨sa, xs.length, sc⟩ m xs.length, BnM.mk ⟨a2, xs.length + 70, c2⟩ m (xs.length + 70)], by simp, rfl⟩ (fun w' h => ?_)
    have h1 := (h.pulls (M := [Row slE 22 gL cL _, Row strE 9 gM cM _, Holds strE (bnH ents), Holds strE _]) (.cons (.tail (.tail (.tail .head))) (.cons (.tail .head) (.cons (.tail (.tail (.tail (.tail .head)))) (.cons (.tail (.tail (.tail .head))) .nil))))).rowV_mk
    have h2 := (h1.perm (List.Perm.swap _ _ _)).rowV_mk
    have h3 := (h2.pulls (M := [Holds strE (bnH ents), Holds strE _]) (.cons (.tail (.tail .head)) (.cons (.tail (.tail .head)) .nil))).holds_join
    refine BkO_shut (.slice (some ⟨gL, 0, none⟩) (ents.map BnM.sl ++ [SlV.mk sa xs.length sc, SlV.mk a2 (xs.length + 70) c2]).length cL, .slice (some ⟨gM, 0, none⟩) (ents.map BnM.mark ++ [m, m]).length cM) (R := []) ?_
    unfold bkL
    rw [List.map_append, List.map_append, show bnH (ents ++ [BnM.mk ⟨sa, xs.length, sc⟩ m xs.length, BnM.mk ⟨a2, xs.length + 70, c2⟩ m (xs.length + 70)]) = bnH ents ++ [(.slice sa xs.length sc, List.replicate xs.length m), (.slice a2 (xs.length + 70) c2, List.replicate (xs.length + 70) m)] from by unfold bnH; rw [List.map_append]; rfl]
    exact h3.sub (.cons (.tail (.tail (.tail .head))) (.cons (.tail (.tail .head)) (.cons (.tail .head) (.cons .head .nil))))
set_option maxHeartbeats 4000000 in
theorem wholeN_spec {p : Nat} {ents : List BnM} (hl : ents.length ≤ 1000000) :
    Spec Try.prog 23 [.pointer (some ⟨p, 0, none⟩)] [BkO p ents] (fun u M => u = .bool true ∧ M = [BkO p ents]) := by
  refine spec_of Try.func23 rfl rfl (Nat.le_of_ble_eq_true rfl) (fun w F => ?_)
  refine hc_open .head BkO_open ?_
  rintro ⟨vL, vM⟩
  unfold bkL
  dsimp only
  have hlL : (ents.map BnM.sl).length = ents.length := List.length_map _
  have hlM : (ents.map BnM.mark).length = ents.length := List.length_map _
  refine hc_know (fun _ h => And.intro (St.rowV_shapeS h (.tail .head)) (St.rowV_shapeS h (.tail (.tail .head)))) ?_
  rw [hlL, hlM]
  rintro ⟨⟨a1, c1, rfl⟩, ⟨a2, c2, rfl⟩⟩
  (refine hc_seq ?_; refine hc_lex ?_; refine hx_plain rfl ?_; refine h_assign rfl rfl rfl rfl ?_; refine hx_nil ?_; refine hq_then ?_; refine hc_seq ?_; refine hc_seq ?_; refine hc_lex ?_; refine hx_plain rfl ?_; refine h_assign rfl rfl rfl rfl ?_; refine hx_nil ?_; refine hq_then ?_; refine hc_block ?_)
  refine hc_cut (id := 0) (Y := Unit) (fun _ => []) (fun _ => [Blk p (.cells #[.slice a1 ents.length c1, .slice a2 ents.length c2] 45 (0, 0)), RowV slE 22 (.slice a1 ents.length c1) (ents.map BnM.sl), RowV strE 9 (.slice a2 ents.length c2) (ents.map BnM.mark), Holds strE (bnH ents)]) (fun _ => True) ?_ ?_
  · refine hc_loop (X := Nat) (fun i => [(0, .pointer (some ⟨p, 0, none⟩)), (3, .int .i64 (i : Int))]) (fun _ => [Blk p (.cells #[.slice a1 ents.length c1, .slice a2 ents.length c2] 45 (0, 0)), RowV slE 22 (.slice a1 ents.length c1) (ents.map BnM.sl), RowV strE 9 (.slice a2 ents.length c2) (ents.map BnM.mark), Holds strE (bnH ents)]) (fun i => i ≤ ents.length) (fun i => ents.length - i) 0 (.cons rfl (.cons rfl .nil)) (Nat.zero_le _) (fun _ h => h) ?_
    intro i hi
    by_cases hlt : i < ents.length
    · obtain ⟨⟨⟨sa, sn, sc⟩, mk, n⟩, hk⟩ : ∃ q, ents[i]? = some q := ⟨_, List.getElem?_eq_getElem hlt⟩
      have e1 : (ents.map BnM.sl)[((i : Nat) : Int).toNat]? = some ⟨sa, sn, sc⟩ := by rw [List.getElem?_map]; show (ents[i]?).map _ = _; rw [hk]; rfl
      have e2 : (ents.map BnM.mark)[((i : Nat) : Int).toNat]? = some mk := by rw [List.getElem?_map]; show (ents[i]?).map _ = _; rw [hk]; rfl
      have hm := bnH_mem hk
      dsimp only [SlV.v] at hm
      refine hc_know (fun _ h => h.hold_shape (.tail (.tail (.tail .head))) hm) ?_
      rw [List.length_replicate]
      rintro ⟨a3, c3, e, _, hmx, hsa⟩
      unfold maxLen at hmx
      injection e with e1' e2' e3'
      subst e1' e2' e3'
      refine hc_rowV (.tail .head) ?_ ?_
      · intro _ e
        rw [e] at hlL
        have h0 : 0 = ents.length := hlL
        omega
      rintro g1 d1 e
      rw [hlL] at e
      injection e with e1' e2' e3'
      subst e1' e3'
      refine hc_rowV (.tail (.tail .head)) ?_ ?_
      · intro _ e
        rw [e] at hlM
        have h0 : 0 = ents.length := hlM
        omega
      rintro g2 d2 e
      rw [hlM] at e
      injection e with e1' e2' e3'
      subst e1' e3'
      (refine hc_seq ?_; refine hc_seq ?_; refine hc_lex ?_; refine hx_plain rfl ?_; refine h_move rfl rfl rfl rfl ?_; refine hx_plain rfl ?_; refine h_move rfl rfl rfl rfl ?_; refine hx_plain rfl ?_; refine h_nilCheck rfl rfl rfl rfl ?_; refine hx_plain rfl ?_; refine h_fieldAddr0 rfl rfl FC.out rfl rfl ?_; refine hx_plain rfl ?_; refine h_load rfl rfl UC.out rfl (.tail (.tail .head)) rfl rfl rfl ?_; refine hx_plain rfl ?_; refine h_len_slice rfl rfl rfl UC.out rfl rfl rfl ?_; refine hx_plain rfl ?_; refine h_cmp rfl rfl rfl rfl rfl rfl ?_; refine hx_nil ?_; refine hq_then ?_; refine hc_condDT rfl (by first | omega | (dsimp only; omega)) ?_; refine hc_skip ?_; refine hq_then ?_; refine hc_seq ?_; refine hc_block ?_; refine hc_seq ?_; refine hc_lex ?_; refine hx_plain rfl ?_; refine h_assign rfl rfl rfl rfl ?_; refine hx_nil ?_; refine hq_then ?_; refine hc_block ?_)
      refine hc_cut (id := 2) (Y := Unit) (fun _ => [(0, .pointer (some ⟨p, 0, none⟩)), (3, .int .i64 (i : Int))]) (fun _ => [Row strE 9 g2 c2 (ents.map BnM.mark), Row slE 22 g1 c1 (ents.map BnM.sl), Blk p (.cells #[.slice (some ⟨g1, 0, none⟩) ents.length c1, .slice (some ⟨g2, 0, none⟩) ents.length c2] 45 (0, 0)), Holds strE (bnH ents)]) (fun _ => True) ?_ ?_
      · refine hc_loop (X := Nat) (fun j => [(0, .pointer (some ⟨p, 0, none⟩)), (3, .int .i64 (i : Int)), (4, .int .i64 (j : Int))]) (fun _ => [Row strE 9 g2 c2 (ents.map BnM.mark), Row slE 22 g1 c1 (ents.map BnM.sl), Blk p (.cells #[.slice (some ⟨g1, 0, none⟩) ents.length c1, .slice (some ⟨g2, 0, none⟩) ents.length c2] 45 (0, 0)), Holds strE (bnH ents)]) (fun j => j ≤ sn) (fun j => sn - j) 0 (.cons rfl (.cons rfl (.cons rfl .nil))) (Nat.zero_le _) (fun _ h => h) ?_
        intro j hj
        by_cases hjl : j < sn
        · obtain ⟨g4, o4, rfl⟩ := hsa.resolve_left (fun e => by have := congrArg List.length e; rw [List.length_replicate] at this; have h0 : sn = 0 := this; omega)
          have e3 : (List.replicate sn mk)[((j : Nat) : Int).toNat]? = some mk := by simp [hjl]
          (refine hc_seq ?_; refine hc_seq ?_; refine hc_lex ?_; refine hx_plain rfl ?_; refine h_move rfl rfl rfl rfl ?_; refine hx_plain rfl ?_; refine h_move rfl rfl rfl rfl ?_; refine hx_plain rfl ?_; refine h_nilCheck rfl rfl rfl rfl ?_; refine hx_plain rfl ?_; refine h_fieldAddr0 rfl rfl FC.out rfl rfl ?_; refine hx_plain rfl ?_; refine h_load rfl rfl UC.out rfl (.tail (.tail .head)) rfl rfl rfl ?_; refine hx_plain rfl ?_; refine h_move rfl rfl rfl rfl ?_; refine hx_plain rfl ?_; refine h_rowAddr rfl rfl rfl UC.out IC.size (by first | omega | (dsimp only; omega)) (by first | omega | (dsimp only; omega)) rfl rfl ?_; refine hx_plain rfl ?_; refine h_rowLoad1 rfl (.tail .head) rfl UC.out rfl (by with_reducible assumption) rfl rfl rfl ?_; refine hx_plain rfl ?_; refine h_len_slice rfl rfl rfl UC.out rfl rfl rfl ?_; refine hx_plain rfl ?_; refine h_cmp rfl rfl rfl rfl rfl rfl ?_; refine hx_nil ?_; refine hq_then ?_; refine hc_condDT rfl (by first | omega | (dsimp only; omega)) ?_; refine hc_skip ?_; refine hq_then ?_; refine hc_seq ?_; refine hc_block ?_; refine hc_seq ?_; refine hc_draw0 (by kernel_rfl) (by kernel_rfl) ?_; refine hx_plain rfl ?_; refine h_move rfl rfl rfl rfl ?_; refine hx_plain rfl ?_; refine h_nilCheck rfl rfl rfl rfl ?_; refine hx_plain rfl ?_; refine h_fieldAddr0 rfl rfl FC.out rfl rfl ?_; refine hx_plain rfl ?_; refine h_load rfl rfl UC.out rfl (.tail (.tail .head)) rfl rfl rfl ?_; refine hx_plain rfl ?_; refine h_move rfl rfl rfl rfl ?_; refine hx_plain rfl ?_; refine h_rowAddr rfl rfl rfl UC.out IC.size (by first | omega | (dsimp only; omega)) (by first | omega | (dsimp only; omega)) rfl rfl ?_; refine hx_plain rfl ?_; refine h_rowLoad1 rfl (.tail .head) rfl UC.out rfl (by with_reducible assumption) rfl rfl rfl ?_; refine hx_plain rfl ?_; refine h_move rfl rfl rfl rfl ?_; refine hx_plain rfl ?_; refine h_indexAddr rfl rfl rfl UC.out IC.size (by first | omega | (dsimp only; omega)) (by first | omega | (dsimp only; omega)) rfl rfl ?_; refine hx_plain rfl ?_; refine h_holdLoad0 rfl (.tail (.tail (.tail .head))) hm rfl UC.out rfl (by with_reducible assumption) rfl rfl rfl ?_; refine hx_plain rfl ?_; refine h_move rfl rfl rfl rfl ?_; refine hx_plain rfl ?_; refine h_nilCheck rfl rfl rfl rfl ?_; refine hx_plain rfl ?_; refine h_fieldAddr0 rfl rfl FC.out rfl rfl ?_; refine hx_plain rfl ?_; refine h_load rfl rfl UC.out rfl (.tail (.tail .head)) rfl rfl rfl ?_; refine hx_plain rfl ?_; refine h_move rfl rfl rfl rfl ?_; refine hx_plain rfl ?_; refine h_rowAddr rfl rfl rfl UC.out IC.size (by first | omega | (dsimp only; omega)) (by first | omega | (dsimp only; omega)) rfl rfl ?_; refine hx_plain rfl ?_; refine h_rowLoad1 rfl .head rfl UC.out rfl (by with_reducible assumption) rfl rfl rfl ?_; refine hx_plain rfl ?_; refine h_cmpS rfl rfl rfl rfl rfl rfl ?_; refine hx_nil ?_; refine hq_then ?_; refine hc_cond rfl (fun hc => ?_) (fun hc => ?_); refine hc_seq ?_; refine hc_lex ?_; refine hx_plain rfl ?_; refine h_assign rfl rfl rfl rfl ?_; refine hx_nil ?_; refine hq_then ?_; refine hc_ret ?_; refine hq_ret_block ?_; refine hq_ret_then ?_; refine hq_ret_then ?_; refine hq_cut_ret ?_; refine hq_ret_block ?_; refine hq_ret_block ?_; refine hq_ret_then ?_; refine hq_ret_then ?_; refine hq_cut_ret ?_; refine hq_ret_block ?_; refine hq_ret_then ?_; rotate_left; refine hc_skip ?_; refine hq_norm_block ?_; refine hq_then ?_; refine hc_lex ?_; refine hx_plain rfl ?_; refine h_move rfl rfl rfl rfl ?_; refine hx_plain rfl ?_; refine h_arithI rfl rfl rfl rfl (by first | omega | (dsimp only; omega)) rfl rfl ?_; refine hx_plain rfl ?_; refine h_assign rfl rfl rfl rfl ?_; refine hx_nil ?_; rotate_left)
          · exact absurd hc (by simp)
          exact hq_round (j + 1) (by omega) (by omega) (.cons rfl (.cons rfl (.cons rfl .nil))) (fun _ h => h)
        · (refine hc_seq ?_; refine hc_seq ?_; refine hc_lex ?_; refine hx_plain rfl ?_; refine h_move rfl rfl rfl rfl ?_; refine hx_plain rfl ?_; refine h_move rfl rfl rfl rfl ?_; refine hx_plain rfl ?_; refine h_nilCheck rfl rfl rfl rfl ?_; refine hx_plain rfl ?_; refine h_fieldAddr0 rfl rfl FC.out rfl rfl ?_; refine hx_plain rfl ?_; refine h_load rfl rfl UC.out rfl (.tail (.tail .head)) rfl rfl rfl ?_; refine hx_plain rfl ?_; refine h_move rfl rfl rfl rfl ?_; refine hx_plain rfl ?_; refine h_rowAddr rfl rfl rfl UC.out IC.size (by first | omega | (dsimp only; omega)) (by first | omega | (dsimp only; omega)) rfl rfl ?_; refine hx_plain rfl ?_; refine h_rowLoad1 rfl (.tail .head) rfl UC.out rfl (by with_reducible assumption) rfl rfl rfl ?_; refine hx_plain rfl ?_; refine h_len_slice rfl rfl rfl UC.out rfl rfl rfl ?_; refine hx_plain rfl ?_; refine h_cmp rfl rfl rfl rfl rfl rfl ?_; refine hx_nil ?_; refine hq_then ?_; refine hc_condDF rfl (by first | omega | (dsimp only; omega)) ?_; refine hc_exit ?_; refine hq_exit_then ?_; refine hq_exit_then ?_)
          exact hq_cut () trivial (.cons rfl (.cons rfl .nil)) (fun _ h => h)
      · rintro ⟨⟩ _
        (refine hq_exit_block ?_; refine hq_norm_block ?_; refine hq_then ?_; refine hc_lex ?_; refine hx_plain rfl ?_; refine h_move rfl rfl rfl rfl ?_; refine hx_plain rfl ?_; refine h_arithI rfl rfl rfl rfl (by first | omega | (dsimp only; omega)) rfl rfl ?_; refine hx_plain rfl ?_; refine h_assign rfl rfl rfl rfl ?_; refine hx_nil ?_)
        refine hq_round (i + 1) (by omega) (by omega) (.cons rfl (.cons rfl .nil)) (fun w' h => ?_)
        have h1 := h.rowV_mk
        have h2 := (h1.perm (List.Perm.swap _ _ _)).rowV_mk
        rw [hlL, hlM] at h2
        exact h2.pulls (M := [_, _, _, _]) (.cons (.tail (.tail .head)) (.cons .head (.cons .head (.cons .head .nil))))
    · (refine hc_seq ?_; refine hc_seq ?_; refine hc_lex ?_; refine hx_plain rfl ?_; refine h_move rfl rfl rfl rfl ?_; refine hx_plain rfl ?_; refine h_move rfl rfl rfl rfl ?_; refine hx_plain rfl ?_; refine h_nilCheck rfl rfl rfl rfl ?_; refine hx_plain rfl ?_; refine h_fieldAddr0 rfl rfl FC.out rfl rfl ?_; refine hx_plain rfl ?_; refine h_load rfl rfl UC.out rfl .head rfl rfl rfl ?_; refine hx_plain rfl ?_; refine h_len_slice rfl rfl rfl UC.out rfl rfl rfl ?_; refine hx_plain rfl ?_; refine h_cmp rfl rfl rfl rfl rfl rfl ?_; refine hx_nil ?_; refine hq_then ?_; refine hc_condDF rfl (by first | omega | (dsimp only; omega)) ?_; refine hc_exit ?_; refine hq_exit_then ?_; refine hq_exit_then ?_)
      exact hq_cut () trivial .nil (fun _ h => h)
  · rintro ⟨⟩ _
    (refine hq_exit_block ?_; refine hq_then ?_; refine hc_seq ?_; refine hc_lex ?_; refine hx_plain rfl ?_; refine h_assign rfl rfl rfl rfl ?_; refine hx_nil ?_; refine hq_then ?_; refine hc_ret ?_)
    exact hq_ret1 (.inr rfl) rfl rfl ⟨rfl, rfl⟩ (fun _ h => BkO_shut (_, _) (R := []) h)
end Go.Proofs.Ytbelfaoolnijiaa
