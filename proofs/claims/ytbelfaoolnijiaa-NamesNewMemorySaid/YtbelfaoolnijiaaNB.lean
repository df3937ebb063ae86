import Derived.Test.YtbelfaoolnijiaaNSp
import Derived.Test.YtbelfaoolnijiaaEngT
import Derived.Test.YtbelfaoolnijiaaTab
namespace Go.Proofs.Ytbelfaoolnijiaa
open Go Go.Proofs Go.RowKit
set_option maxRecDepth 4000

/-! ### Texts as elements; what names answers, in the engine's words -/
def strE : Elem ByteArray where
  sz := 1
  pos := by decide
  enc k := [.string k]
  len _ := rfl
  one t v hv := by
    simp at hv
    subst hv
    rfl
theorem toList_inj {a b : ByteArray} (h : a.toList = b.toList) : a = b := by
  rw [ByteArray.toList_eq, ByteArray.toList_eq] at h
  cases a; cases b
  congr 1
  exact Array.toList_inj.1 h
theorem but_of_below {w w' : World} (h : Below w.heap.size w w') : But w w' nowhere := ⟨h.os, h.tape, h.output, h.size, fun k hk _ => h.block k hk⟩
/-- What Split answers. -/
def spl (s : ByteArray) : List ByteArray × Int := if s.data.toList.head? ≠ some 47 then ([], 32) else if s.data.toList = [47] then ([], 0) else Nm.splitV s
theorem check_reads (s : ByteArray) (w : World) : Calls Try.prog 13 [Value.string s].toArray w (fun en w' => en = .returned (.int .i64 (Nm.checkV s)) ∧ But w w' nowhere) :=
  (Nm.names_Check.calls s _ w rfl).mono fun e w' ⟨h1, h2⟩ => ⟨h1, but_of_below h2⟩
theorem St.rowV_shapeT {X : Type} {E : Elem X} {T : Nat} {v : Value} {xs : List X} {w w0 : World} {F0 : Nat → Prop} {L : List Asn} (h : St w0 F0 (RowV E T v xs :: L) w) : ∃ a c, v = .slice a xs.length c := by
  obtain ⟨a, c, e, _⟩ := h.rdRowV .head
  exact ⟨a, c, e⟩
theorem split_makes (s : ByteArray) (w : World) : Makes Try.prog 16 [.string s] w (fun u M => ∃ sl : SlV, u = .tuple #[sl.v, .int .i64 (spl s).2] ∧ sl.len = (spl s).1.length ∧ M = [RowV strE 9 sl.v (spl s).1]) := by
  refine (Nm.names_Split.calls s (spl s).1 (spl s).2 w rfl).mono ?_
  rintro e w' ⟨v, rfl, ho, hb⟩
  have hrow := RowV.of_owns (E := strE) (xs := (spl s).1) (Nm.own_weaken ho (Nat.zero_le _)) (fun i x hx j u hj => by
    have hj0 : j = 0 := by
      have := (List.getElem?_eq_some_iff.1 hj).1
      have h1 : j < 1 := this
      omega
    subst hj0
    obtain rfl : Value.string x = u := by simpa [strE] using hj
    show ((spl s).1.map Value.string)[i * 1 + 0]? = _
    rw [Nat.mul_one, Nat.add_zero, List.getElem?_map, hx]
    rfl)
  have hst : St w nowhere [RowV strE 9 v (spl s).1] w' := st_one hrow (but_of_below hb) (fun x hx => .inr (Nm.own_base ho x hx))
  obtain ⟨a, c, rfl⟩ := St.rowV_shapeT hst
  exact ⟨_, _, rfl, ⟨⟨a, _, c⟩, rfl, rfl, rfl⟩, hst⟩
set_option maxHeartbeats 1000000 in
theorem sameTexts {xs ys : List ByteArray} {w : World} {v1 v2 : Value} (h1 : Rd strE w v1 xs) (h2 : Rd strE w v2 ys) :
    Calls Try.prog 18 [v1, v2].toArray w (fun en w' => en = .returned (.bool (decide (xs = ys))) ∧ But w w' nowhere) := by
  obtain ⟨a1, c1, rfl, l1, m1, k1⟩ := h1
  obtain ⟨a2, c2, rfl, l2, m2, k2⟩ := h2
  unfold maxLen at m1 m2
  refine reads_of Try.func18 rfl rfl (Nat.le_of_ble_eq_true rfl) ?_
  by_cases hlen : xs.length = ys.length
  · by_cases hx : xs = []
    · have hy : ys = [] := List.eq_nil_of_length_eq_zero (by rw [← hlen, hx]; rfl)
      subst hx hy
      (refine hc_seq ?_; refine hc_lex ?_; refine hx_plain rfl ?_; refine h_assign rfl rfl rfl rfl ?_; refine hx_nil ?_; refine hq_then ?_; refine hc_seq ?_; refine hc_seq ?_; refine hc_lex ?_; refine hx_plain rfl ?_; refine h_move rfl rfl rfl rfl ?_; refine hx_plain rfl ?_; refine h_len_slice rfl rfl rfl UC.out rfl rfl rfl ?_; refine hx_plain rfl ?_; refine h_move rfl rfl rfl rfl ?_; refine hx_plain rfl ?_; refine h_len_slice rfl rfl rfl UC.out rfl rfl rfl ?_; refine hx_plain rfl ?_; refine h_cmp rfl rfl rfl rfl rfl rfl ?_; refine hx_nil ?_; refine hq_then ?_; refine hc_condF rfl ?_; refine hc_skip ?_; refine hq_then ?_; refine hc_seq ?_; refine hc_seq ?_; refine hc_lex ?_; refine hx_plain rfl ?_; refine h_assign rfl rfl rfl rfl ?_; refine hx_nil ?_; refine hq_then ?_; refine hc_block ?_)
      refine hc_loop (X := Nat) (fun i => [(0, .slice a1 0 c1), (5, .int .i64 (i : Int))]) (fun _ => []) (fun i => i = 0) (fun _ => 0) 0 (.cons rfl (.cons rfl .nil)) rfl (fun _ h => h) ?_
      rintro i rfl
      (refine hc_seq ?_; refine hc_seq ?_; refine hc_lex ?_; refine hx_plain rfl ?_; refine h_move rfl rfl rfl rfl ?_; refine hx_plain rfl ?_; refine h_move rfl rfl rfl rfl ?_; refine hx_plain rfl ?_; refine h_len_slice rfl rfl rfl UC.out rfl rfl rfl ?_; refine hx_plain rfl ?_; refine h_cmp rfl rfl rfl rfl rfl rfl ?_; refine hx_nil ?_; refine hq_then ?_; refine hc_condF rfl ?_; refine hc_exit ?_; refine hq_exit_then ?_; refine hq_exit_then ?_; refine hq_exit_block ?_; refine hq_then ?_; refine hc_seq ?_; refine hc_lex ?_; refine hx_plain rfl ?_; refine h_assign rfl rfl rfl rfl ?_; refine hx_nil ?_; refine hq_then ?_; refine hc_ret ?_)
      refine hq_ret1 (.inr rfl) rfl rfl ⟨by simp, rfl⟩ (fun _ h => h.emp)
    · have hy : ys ≠ [] := fun e => hx (List.eq_nil_of_length_eq_zero (by rw [hlen, e]; rfl))
      obtain ⟨g1, o1, rfl, r1⟩ := k1.resolve_left hx
      obtain ⟨g2, o2, rfl, r2⟩ := k2.resolve_left hy
      clear k1 k2 hx hy
      (refine hc_seq ?_; refine hc_lex ?_; refine hx_plain rfl ?_; refine h_assign rfl rfl rfl rfl ?_; refine hx_nil ?_; refine hq_then ?_; refine hc_seq ?_; refine hc_seq ?_; refine hc_lex ?_; refine hx_plain rfl ?_; refine h_move rfl rfl rfl rfl ?_; refine hx_plain rfl ?_; refine h_len_slice rfl rfl rfl UC.out rfl rfl rfl ?_; refine hx_plain rfl ?_; refine h_move rfl rfl rfl rfl ?_; refine hx_plain rfl ?_; refine h_len_slice rfl rfl rfl UC.out rfl rfl rfl ?_; refine hx_plain rfl ?_; refine h_cmp rfl rfl rfl rfl rfl rfl ?_; refine hx_nil ?_; refine hq_then ?_; refine hc_condDF rfl (by omega) ?_; refine hc_skip ?_; refine hq_then ?_; refine hc_seq ?_; refine hc_seq ?_; refine hc_lex ?_; refine hx_plain rfl ?_; refine h_assign rfl rfl rfl rfl ?_; refine hx_nil ?_; refine hq_then ?_; refine hc_block ?_)
      refine hc_loop (X := Nat) (fun i => [(0, .slice (some ⟨g1, o1, none⟩) xs.length c1), (1, .slice (some ⟨g2, o2, none⟩) ys.length c2), (5, .int .i64 (i : Int))]) (fun _ => []) (fun i => i ≤ xs.length ∧ ∀ j, j < i → xs[j]? = ys[j]?) (fun i => xs.length - i) 0 (.cons rfl (.cons rfl (.cons rfl .nil))) ⟨Nat.zero_le _, fun j hj => absurd hj (Nat.not_lt_zero j)⟩ (fun _ h => h) ?_
      rintro i ⟨hi, he⟩
      by_cases hlt : i < xs.length
      · have e1 : xs[((i : Nat) : Int).toNat]? = some xs[i] := List.getElem?_eq_getElem hlt
        have e2 : ys[((i : Nat) : Int).toNat]? = some (ys[i]'(by omega)) := List.getElem?_eq_getElem (by omega)
        (refine hc_seq ?_; refine hc_seq ?_; refine hc_lex ?_; refine hx_plain rfl ?_; refine h_move rfl rfl rfl rfl ?_; refine hx_plain rfl ?_; refine h_move rfl rfl rfl rfl ?_; refine hx_plain rfl ?_; refine h_len_slice rfl rfl rfl UC.out rfl rfl rfl ?_; refine hx_plain rfl ?_; refine h_cmp rfl rfl rfl rfl rfl rfl ?_; refine hx_nil ?_; refine hq_then ?_; refine hc_condDT rfl (by omega) ?_; refine hc_skip ?_; refine hq_then ?_; refine hc_seq ?_; refine hc_block ?_; refine hc_seq ?_; refine hc_draw0 (by kernel_rfl) (by kernel_rfl) ?_; refine hx_plain rfl ?_; refine h_move rfl rfl rfl rfl ?_; refine hx_plain rfl ?_; refine h_move rfl rfl rfl rfl ?_; refine hx_plain rfl ?_; refine h_indexAddr rfl rfl rfl UC.out IC.size (by omega) (by omega) rfl rfl ?_; refine hx_plain rfl ?_; refine h_rdLoad1 rfl r1 rfl UC.out rfl (by with_reducible assumption) rfl rfl rfl ?_; refine hx_plain rfl ?_; refine h_move rfl rfl rfl rfl ?_; refine hx_plain rfl ?_; refine h_move rfl rfl rfl rfl ?_; refine hx_plain rfl ?_; refine h_indexAddr rfl rfl rfl UC.out IC.size (by omega) (by omega) rfl rfl ?_; refine hx_plain rfl ?_; refine h_rdLoad1 rfl r2 rfl UC.out rfl (by with_reducible assumption) rfl rfl rfl ?_; refine hx_plain rfl ?_; refine h_cmpS rfl rfl rfl rfl rfl rfl ?_; refine hx_nil ?_; refine hq_then ?_; refine hc_cond rfl (fun hc => ?_) (fun hc => ?_); refine hc_seq ?_; refine hc_lex ?_; refine hx_plain rfl ?_; refine h_assign rfl rfl rfl rfl ?_; refine hx_nil ?_; refine hq_then ?_; refine hc_ret ?_; refine hq_ret_block ?_; refine hq_ret_then ?_; refine hq_ret_then ?_; refine hq_ret_block ?_; refine hq_ret_then ?_; rotate_left; refine hc_skip ?_; refine hq_norm_block ?_; refine hq_then ?_; refine hc_lex ?_; refine hx_plain rfl ?_; refine h_move rfl rfl rfl rfl ?_; refine hx_plain rfl ?_; refine h_arithI rfl rfl rfl rfl (by omega) rfl rfl ?_; refine hx_plain rfl ?_; refine h_assign rfl rfl rfl rfl ?_; refine hx_nil ?_; rotate_left)
        · refine hq_ret1 (.inr rfl) rfl rfl ⟨?_, rfl⟩ (fun _ h => h.emp)
          rw [decide_eq_false (fun e => by
            have : xs[i] = ys[i]'(by omega) := by simp only [e]
            rw [this] at hc
            simp at hc)]
        · have hc' : xs[i] = ys[i]'(by omega) := toList_inj (by simpa using hc)
          refine hq_round (i + 1) (by omega) ⟨by omega, fun j hj => ?_⟩ (.cons rfl (.cons rfl (.cons (by show some _ = some _; congr 2) .nil))) (fun _ h => h)
          by_cases e : j = i
          · subst e
            rw [List.getElem?_eq_getElem hlt, List.getElem?_eq_getElem (by omega), hc']
          · exact he j (by omega)
      · (refine hc_seq ?_; refine hc_seq ?_; refine hc_lex ?_; refine hx_plain rfl ?_; refine h_move rfl rfl rfl rfl ?_; refine hx_plain rfl ?_; refine h_move rfl rfl rfl rfl ?_; refine hx_plain rfl ?_; refine h_len_slice rfl rfl rfl UC.out rfl rfl rfl ?_; refine hx_plain rfl ?_; refine h_cmp rfl rfl rfl rfl rfl rfl ?_; refine hx_nil ?_; refine hq_then ?_; refine hc_condDF rfl (by omega) ?_; refine hc_exit ?_; refine hq_exit_then ?_; refine hq_exit_then ?_; refine hq_exit_block ?_; refine hq_then ?_; refine hc_seq ?_; refine hc_lex ?_; refine hx_plain rfl ?_; refine h_assign rfl rfl rfl rfl ?_; refine hx_nil ?_; refine hq_then ?_; refine hc_ret ?_)
        refine hq_ret1 (.inr rfl) rfl rfl ⟨?_, rfl⟩ (fun _ h => h.emp)
        have : xs = ys := List.ext_getElem? (fun j => by
          rcases Nat.lt_or_ge j i with hj | hj
          · exact he j hj
          · rw [List.getElem?_eq_none (by omega), List.getElem?_eq_none (by omega)])
        rw [decide_eq_true this]
  · (refine hc_seq ?_; refine hc_lex ?_; refine hx_plain rfl ?_; refine h_assign rfl rfl rfl rfl ?_; refine hx_nil ?_; refine hq_then ?_; refine hc_seq ?_; refine hc_seq ?_; refine hc_lex ?_; refine hx_plain rfl ?_; refine h_move rfl rfl rfl rfl ?_; refine hx_plain rfl ?_; refine h_len_slice rfl rfl rfl UC.out rfl rfl rfl ?_; refine hx_plain rfl ?_; refine h_move rfl rfl rfl rfl ?_; refine hx_plain rfl ?_; refine h_len_slice rfl rfl rfl UC.out rfl rfl rfl ?_; refine hx_plain rfl ?_; refine h_cmp rfl rfl rfl rfl rfl rfl ?_; refine hx_nil ?_; refine hq_then ?_; refine hc_condDT rfl (by omega) ?_; refine hc_seq ?_; refine hc_lex ?_; refine hx_plain rfl ?_; refine h_assign rfl rfl rfl rfl ?_; refine hx_nil ?_; refine hq_then ?_; refine hc_ret ?_; refine hq_ret_then ?_)
    refine hq_ret1 (.inr rfl) rfl rfl ⟨?_, rfl⟩ (fun _ h => h.emp)
    rw [decide_eq_false (fun e => hlen (by rw [e]))]
end Go.Proofs.Ytbelfaoolnijiaa
