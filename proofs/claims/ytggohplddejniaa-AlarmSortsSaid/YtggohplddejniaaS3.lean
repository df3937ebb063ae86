import Derived.Test.YtggohplddejniaaS2
import Derived.Test.YtggohplddejniaaB2
import Derived.Test.YtggohplddejniaaEngL
namespace Go.Proofs.Ytggohplddejniaa
open Go Go.Proofs
set_option maxRecDepth 4000

set_option maxHeartbeats 1000000 in
theorem ints_makes {xs : List Int} {w : World} {v : Value} (h1 : Rd intE w v xs) (hl : xs.length ≤ 1099511627776) :
    Makes Try.prog 48 [v] w (fun u M => M = [RowV intE 3 u xs]) := by
  obtain ⟨a1, c1, rfl, l1, m1, k1⟩ := h1
  refine makes_of Try.func48 rfl rfl (Nat.le_of_ble_eq_true rfl) ?_
  (refine hc_seq ?_; refine hc_lex ?_; refine hx_plain rfl ?_; refine h_assign rfl rfl rfl rfl ?_; refine hx_nil ?_; refine hq_then ?_; refine hc_seq ?_; refine hc_lex ?_; refine hx_plain rfl ?_; refine h_assign rfl rfl rfl rfl ?_; refine hx_nil ?_; refine hq_then ?_; refine hc_seq ?_; refine hc_seq ?_; refine hc_lex ?_; refine hx_plain rfl ?_; refine h_assign rfl rfl rfl rfl ?_; refine hx_nil ?_; refine hq_then ?_; refine hc_block ?_)
  refine hc_cut (id := 0) (Y := Value) (fun v => [(3, v)]) (fun v => [RowV intE 3 v xs]) (fun _ => True) ?_ ?_
  · refine hc_loop (X := Nat × Value) (fun x => [(0, .slice a1 xs.length c1), (3, x.2), (4, .int .i64 (x.1 : Int))]) (fun x => [RowV intE 3 x.2 (xs.take x.1)]) (fun x => x.1 ≤ xs.length) (fun x => xs.length - x.1) (0, .slice none 0 0) (.cons rfl (.cons rfl (.cons rfl .nil))) (Nat.zero_le _) (fun _ h => St.rowV_nil h) ?_
    rintro ⟨i, v⟩ hi
    dsimp only at hi ⊢
    by_cases hlt : i < xs.length
    · have hps : xs ≠ [] := by
        intro e
        rw [e] at hlt
        exact absurd hlt (Nat.not_lt_zero _)
      obtain ⟨g1, o1, rfl, r1⟩ := k1.resolve_left hps
      clear k1
      have e1 : xs[((i : Nat) : Int).toNat]? = some xs[i] := List.getElem?_eq_getElem hlt
      have hlen : (xs.take i).length = i := by rw [List.length_take]; omega
      (refine hc_seq ?_; refine hc_seq ?_; refine hc_lex ?_; refine hx_plain rfl ?_; refine h_move rfl rfl rfl rfl ?_; refine hx_plain rfl ?_; refine h_move rfl rfl rfl rfl ?_; refine hx_plain rfl ?_; refine h_len_slice rfl rfl rfl UC.out rfl rfl rfl ?_; refine hx_plain rfl ?_; refine h_cmp rfl rfl rfl rfl rfl rfl ?_; refine hx_nil ?_; refine hq_then ?_; refine hc_condDT rfl (by omega) ?_; refine hc_skip ?_; refine hq_then ?_; refine hc_seq ?_; refine hc_block ?_; refine hc_lex ?_; refine hx_plain rfl ?_; refine h_move rfl rfl rfl rfl ?_; refine hx_plain rfl ?_; refine h_move rfl rfl rfl rfl ?_; refine hx_plain rfl ?_; refine h_move rfl rfl rfl rfl ?_; refine hx_plain rfl ?_; refine h_indexAddr rfl rfl rfl UC.out IC.size (by omega) (by omega) rfl rfl ?_; refine hx_plain rfl ?_; refine h_rdLoad1 rfl r1 rfl UC.out rfl (by with_reducible assumption) rfl rfl rfl ?_; refine hx_plain rfl ?_; (refine h_buildSlice rfl rfl rfl UC.out IC.size IC.zero rfl rfl (by intro v hv; simp at hv; first | (subst hv; rfl) | (rcases hv with rfl | rfl <;> rfl) | (rcases hv with rfl | rfl | rfl <;> rfl)) (by omega) rfl rfl (fun _ => ?_)); refine hx_plain rfl ?_)
      refine h_append (m := 1) (E := intE) (T := 3) (xs := xs.take i) (ys := [xs[i]]) rfl rfl rfl rfl rfl UC.out IC.out rfl (.cons (.tail .head) (.cons .head .nil)) rfl (one_row intE _) (by unfold maxLen; omega) (by omega) rfl rfl (fun v' _ => ?_)
      (refine hx_plain rfl ?_; refine h_assign rfl rfl rfl rfl ?_; refine hx_nil ?_; refine hq_norm_block ?_; refine hq_then ?_; refine hc_lex ?_; refine hx_plain rfl ?_; refine h_move rfl rfl rfl rfl ?_; refine hx_plain rfl ?_; refine h_arithI rfl rfl rfl rfl (by omega) rfl rfl ?_; refine hx_plain rfl ?_; refine h_assign rfl rfl rfl rfl ?_; refine hx_nil ?_)
      refine hq_round (i + 1, v') (by show xs.length - (i + 1) < xs.length - i; omega) (by show i + 1 ≤ xs.length; omega) (.cons rfl (.cons rfl (.cons rfl .nil))) (fun _ h => ?_)
      show St w nowhere [RowV intE 3 v' (xs.take (i + 1))] _
      rw [List.take_succ_eq_append_getElem hlt]
      exact h.sub (.cons .head .nil)
    · (refine hc_seq ?_; refine hc_seq ?_; refine hc_lex ?_; refine hx_plain rfl ?_; refine h_move rfl rfl rfl rfl ?_; refine hx_plain rfl ?_; refine h_move rfl rfl rfl rfl ?_; refine hx_plain rfl ?_; refine h_len_slice rfl rfl rfl UC.out rfl rfl rfl ?_; refine hx_plain rfl ?_; refine h_cmp rfl rfl rfl rfl rfl rfl ?_; refine hx_nil ?_; refine hq_then ?_; refine hc_condDF rfl (by omega) ?_; refine hc_exit ?_; refine hq_exit_then ?_; refine hq_exit_then ?_)
      refine hq_cut v trivial (.cons rfl .nil) (fun _ h => ?_)
      rw [List.take_of_length_le (by omega)] at h
      exact h
  · rintro v _
    (refine hq_exit_block ?_; refine hq_then ?_; refine hc_seq ?_; refine hc_lex ?_; refine hx_plain rfl ?_; refine h_move rfl rfl rfl rfl ?_; refine hx_plain rfl ?_; refine h_assign rfl rfl rfl rfl ?_; refine hx_nil ?_; refine hq_then ?_; refine hc_ret ?_)
    refine hq_ret1 (.inr rfl) rfl rfl rfl (fun _ h => h)
theorem Spec.shape2 {X : Type} {E : Elem X} {T : Nat} {P : Program} {f : FuncId} {args : List Value} {pre : List Asn} {A1 : Asn} {xs : List X} (h : Spec P f args pre (fun u M => M = [A1, RowV E T u xs])) : Spec P f args pre (fun u M => ∃ a c, u = .slice a xs.length c ∧ M = [A1, RowV E T u xs]) := fun w F hs =>
  (h w F hs).mono fun en w' ⟨v, M, e, hM, hst⟩ => by
    subst hM
    obtain ⟨a, c, e2, _⟩ := hst.rdRowV (.tail .head)
    exact ⟨v, _, e, ⟨a, c, e2, rfl⟩, hst⟩
set_option maxHeartbeats 8000000 in
theorem twins_reads {ps : List Pair} {w : World} {v0 v2 : Value} (now : Int) (rp : Rd pairE w v0 ps) (rk : Rd intE w v2 ((setsR ps (lim ps) e0).due IT now).1) :
    Calls Try.prog 35 [v0, .int .i64 now, v2].toArray w (fun en w' => en = .returned (.bool true) ∧ But w w' nowhere) := by
  obtain ⟨a0, c0, rfl, l0, m0, k0⟩ := rp
  unfold maxLen at m0
  have hg : lim ps ≤ ps.length ∧ lim ps ≤ 300 ∧ (lim ps = ps.length ∨ lim ps = 300) := by unfold lim; omega
  have ha : ∀ i, i ≤ ps.length → Inv IT (setsR ps i e0) ∧ (setsR ps i e0).xs.length ≤ i := fun i hi => by
    have := setsR_inv ps (a := e0) Inv.new i (by omega)
    exact ⟨this.1, by have := this.2; simpa using this⟩
  refine reads_of Try.func35 rfl rfl (Nat.le_of_ble_eq_true rfl) ?_
  (refine hc_seq ?_; refine hc_lex ?_; refine hx_plain rfl ?_; refine h_assign rfl rfl rfl rfl ?_; refine hx_nil ?_; refine hq_then ?_; refine hc_seq ?_; refine hc_lex ?_; refine hx_plain rfl ?_; refine h_assign rfl rfl rfl rfl ?_; refine hx_nil ?_; refine hq_then ?_; refine hc_seq ?_; refine hc_seq ?_; refine hc_lex ?_; refine hx_plain rfl ?_; refine h_assign rfl rfl rfl rfl ?_; refine hx_nil ?_; refine hq_then ?_; refine hc_block ?_)
  refine hc_cut (id := 0) (Y := List Nat × Value) (fun y => [(0, .slice a0 ps.length c0), (1, .int .i64 now), (2, v2), (7, y.2)]) (fun y => [RowV pntE 24 y.2 y.1, ShG (fun p _ => AlI p e0) y.1]) (fun y => y.1.length = 40) ?_ ?_
  · refine hc_loop (X := Nat × List Nat × Value) (fun x => [(0, .slice a0 ps.length c0), (1, .int .i64 now), (2, v2), (7, x.2.2), (8, .int .i64 (x.1 : Int))]) (fun x => [RowV pntE 24 x.2.2 x.2.1, ShG (fun p _ => AlI p e0) x.2.1]) (fun x => x.1 ≤ 40 ∧ x.2.1.length = x.1) (fun x => 40 - x.1) (0, [], .slice none 0 0) (.cons rfl (.cons rfl (.cons rfl (.cons rfl (.cons rfl .nil))))) ⟨Nat.zero_le _, rfl⟩ (fun _ h => St.rowV_nil (ShG_nil h)) ?_
    rintro ⟨i, as_, v⟩ ⟨hi, hl⟩
    dsimp only at hi hl ⊢
    by_cases hlt : i < 40
    · (refine hc_seq ?_; refine hc_seq ?_; refine hc_lex ?_; refine hx_plain rfl ?_; refine h_move rfl rfl rfl rfl ?_; refine hx_plain rfl ?_; refine h_cmp rfl rfl rfl rfl rfl rfl ?_; refine hx_nil ?_; refine hq_then ?_; refine hc_condDT rfl (by omega) ?_; refine hc_skip ?_; refine hq_then ?_; refine hc_seq ?_; refine hc_block ?_; refine hc_seq ?_; refine hc_lex ?_; refine hx_plain rfl ?_)
      refine h_call rfl rfl rfl rfl rfl rfl rfl rfl EC.out .nil AI.new_spec ?_
      rintro u M ⟨p, rfl, rfl⟩
      (refine hx_plain rfl ?_; refine h_assign rfl rfl rfl rfl ?_; refine hx_nil ?_; refine hq_then ?_; refine hc_seq ?_; refine hc_seq ?_; refine hc_lex ?_; refine hx_plain rfl ?_; refine h_move rfl rfl rfl rfl ?_; refine hx_plain rfl ?_; refine h_eqNil rfl rfl rfl UC.out rfl rfl ?_; refine hx_nil ?_; refine hq_then ?_; refine hc_condF rfl ?_; refine hc_skip ?_; refine hq_then ?_; refine hc_lex ?_; refine hx_plain rfl ?_; refine h_move rfl rfl rfl rfl ?_; refine hx_plain rfl ?_; refine h_move rfl rfl rfl rfl ?_; refine hx_plain rfl ?_; (refine h_buildSlice rfl rfl rfl UC.out IC.size IC.zero rfl rfl (by intro v hv; simp at hv; first | (subst hv; rfl) | (rcases hv with rfl | rfl <;> rfl) | (rcases hv with rfl | rfl | rfl <;> rfl)) (by omega) rfl rfl (fun _ => ?_)); refine hx_plain rfl ?_)
      refine h_append (m := 1) (E := pntE) (T := 24) (xs := as_) (ys := [p]) rfl rfl rfl rfl rfl UC.out IC.out rfl (.cons (.tail (.tail .head)) (.cons .head .nil)) rfl (one_row pntE _) (by unfold maxLen; omega) (by omega) rfl rfl (fun v' _ => ?_)
      (refine hx_plain rfl ?_; refine h_assign rfl rfl rfl rfl ?_; refine hx_nil ?_; refine hq_norm_block ?_; refine hq_then ?_; refine hc_lex ?_; refine hx_plain rfl ?_; refine h_move rfl rfl rfl rfl ?_; refine hx_plain rfl ?_; refine h_arithI rfl rfl rfl rfl (by omega) rfl rfl ?_; refine hx_plain rfl ?_; refine h_assign rfl rfl rfl rfl ?_; refine hx_nil ?_)
      refine hq_round (i + 1, as_ ++ [p], v') (by show 40 - (i + 1) < 40 - i; omega) ⟨by show i + 1 ≤ 40; omega, by show (as_ ++ [p]).length = i + 1; rw [List.length_append, hl]; rfl⟩ (.cons rfl (.cons rfl (.cons rfl (.cons rfl (.cons rfl .nil))))) (fun _ h => ?_)
      have h1 := ShG_snoc (G := fun p _ => AlI p e0) (ps := as_) (p := p) (h.sub (.cons (.tail (.tail (.tail .head))) (.cons (.tail (.tail .head)) (.cons .head .nil))))
      exact h1.perm (List.Perm.swap _ _ _)
    · obtain rfl : i = 40 := by omega
      (refine hc_seq ?_; refine hc_seq ?_; refine hc_lex ?_; refine hx_plain rfl ?_; refine h_move rfl rfl rfl rfl ?_; refine hx_plain rfl ?_; refine h_cmp rfl rfl rfl rfl rfl rfl ?_; refine hx_nil ?_; refine hq_then ?_; refine hc_condF rfl ?_; refine hc_exit ?_; refine hq_exit_then ?_; refine hq_exit_then ?_)
      exact hq_cut (as_, v) hl (.cons rfl (.cons rfl (.cons rfl (.cons rfl .nil)))) (fun _ h => h)
  rintro ⟨as_, va⟩ hl
  dsimp only at hl ⊢
  (refine hq_exit_block ?_; refine hq_then ?_; refine hc_seq ?_; refine hc_seq ?_; refine hc_lex ?_; refine hx_plain rfl ?_; refine h_assign rfl rfl rfl rfl ?_; refine hx_nil ?_; refine hq_then ?_; refine hc_block ?_)
  refine hc_know (fun _ h => h.rowV_shapeS .head) ?_
  rintro ⟨ar, cr, rfl⟩
  refine hc_cut (id := 2) (Y := Unit) (fun _ => [(1, .int .i64 now), (2, v2), (7, .slice ar as_.length cr)]) (fun _ => [RowV pntE 24 (.slice ar as_.length cr) as_, ShG (fun p _ => AlI p (setsR ps (lim ps) e0)) as_]) (fun _ => True) ?_ ?_
  · refine hc_loop (X := Nat) (fun i => [(0, .slice a0 ps.length c0), (1, .int .i64 now), (2, v2), (7, .slice ar as_.length cr), (10, .int .i64 (i : Int))]) (fun i => [RowV pntE 24 (.slice ar as_.length cr) as_, ShG (fun p _ => AlI p (setsR ps i e0)) as_]) (fun i => i ≤ lim ps) (fun i => lim ps - i) 0 (.cons rfl (.cons rfl (.cons rfl (.cons rfl (.cons rfl .nil))))) (Nat.zero_le _) (fun _ h => h) ?_
    intro i hi
    by_cases hlt : i < lim ps
    case neg =>
      obtain rfl : i = lim ps := by omega
      (refine hc_seq ?_; refine hc_seq ?_; refine hc_lex ?_; refine hx_plain rfl ?_; refine h_move rfl rfl rfl rfl ?_; refine hx_plain rfl ?_; refine h_move rfl rfl rfl rfl ?_; refine hx_plain rfl ?_; refine h_len_slice rfl rfl rfl UC.out rfl rfl rfl ?_; refine hx_plain rfl ?_; refine h_cmp rfl rfl rfl rfl rfl rfl ?_; refine hx_plain rfl ?_; refine h_move rfl rfl rfl rfl ?_; refine hx_gcaseD rfl rfl rfl (fun hc => ?_) (fun hc => ?_); refine hx_yes rfl rfl rfl ?_; refine h_move rfl rfl rfl rfl ?_; refine hx_yes rfl rfl rfl ?_; refine h_cmp rfl rfl rfl rfl rfl rfl ?_; refine hx_plain rfl ?_; refine h_pickT rfl rfl rfl rfl rfl ?_; refine hx_nil ?_; refine hq_then ?_; refine hc_condDF rfl (by omega) ?_; refine hc_exit ?_; refine hq_exit_then ?_; refine hq_exit_then ?_; rotate_left; refine hx_skip rfl rfl rfl rfl rfl rfl ?_; refine hx_skip rfl rfl rfl rfl rfl rfl ?_; refine hx_plain rfl ?_; refine h_pickF rfl rfl rfl rfl rfl ?_; refine hx_nil ?_; refine hq_then ?_; refine hc_condF rfl ?_; refine hc_exit ?_; refine hq_exit_then ?_; refine hq_exit_then ?_; rotate_left)
      iterate 2 first | exact hq_cut () trivial (.cons rfl (.cons rfl (.cons rfl .nil))) (fun _ h => h) | skip
    have hps : ps ≠ [] := by
      intro e
      have : ps.length = 0 := by rw [e]; rfl
      omega
    obtain ⟨g1, o1, rfl, r1⟩ := k0.resolve_left hps
    have hil : i < ps.length := by omega
    obtain ⟨t, ht⟩ : ∃ t, ps[i] = t := ⟨_, rfl⟩
    have e1 : ps[((i : Nat) : Int).toNat]? = some t := by rw [show ((i : Nat) : Int).toNat = i by omega, List.getElem?_eq_getElem hil, ht]
    have hinv := ha i (by omega)
    have hsucc : setsR ps (i + 1) e0 = (setsR ps i e0).set IT t.K t.At := by rw [setsR_succ (by omega), ht]
    obtain ⟨A, hA⟩ : ∃ A, setsR ps i e0 = A := ⟨_, rfl⟩
    rw [hA] at hinv hsucc ⊢
    (refine hc_seq ?_; refine hc_seq ?_; refine hc_lex ?_; refine hx_plain rfl ?_; refine h_move rfl rfl rfl rfl ?_; refine hx_plain rfl ?_; refine h_move rfl rfl rfl rfl ?_; refine hx_plain rfl ?_; refine h_len_slice rfl rfl rfl UC.out rfl rfl rfl ?_; refine hx_plain rfl ?_; refine h_cmp rfl rfl rfl rfl rfl rfl ?_; refine hx_plain rfl ?_; refine h_move rfl rfl rfl rfl ?_; refine hx_gT rfl rfl rfl (by omega) ?_; refine hx_yes rfl rfl rfl ?_; refine h_move rfl rfl rfl rfl ?_; refine hx_yes rfl rfl rfl ?_; refine h_cmp rfl rfl rfl rfl rfl rfl ?_; refine hx_plain rfl ?_; refine h_pickT rfl rfl rfl rfl rfl ?_; refine hx_nil ?_; refine hq_then ?_; refine hc_condDT rfl (by omega) ?_; refine hc_skip ?_; refine hq_then ?_; refine hc_seq ?_; refine hc_block ?_; refine hc_seq ?_; refine hc_lex ?_; refine hx_plain rfl ?_; refine h_assign rfl rfl rfl rfl ?_; refine hx_nil ?_; refine hq_then ?_; refine hc_block ?_)
    refine hc_cut (id := 4) (Y := Unit) (fun _ => [(0, .slice (some ⟨g1, o1, none⟩) ps.length c0), (1, .int .i64 now), (2, v2), (7, .slice ar as_.length cr), (10, .int .i64 (i : Int))]) (fun _ => [RowV pntE 24 (.slice ar as_.length cr) as_, ShG (fun p _ => AlI p (setsR ps (i + 1) e0)) as_]) (fun _ => True) ?_ ?_
    · refine hc_loop (X := Nat) (fun j => [(0, .slice (some ⟨g1, o1, none⟩) ps.length c0), (1, .int .i64 now), (2, v2), (7, .slice ar as_.length cr), (10, .int .i64 (i : Int)), (11, .int .i64 (j : Int))]) (fun j => [RowV pntE 24 (.slice ar as_.length cr) as_, ShG (fun p k => AlI p (if k < j then setsR ps (i + 1) e0 else A)) as_]) (fun j => j ≤ as_.length) (fun j => as_.length - j) 0 (.cons rfl (.cons rfl (.cons rfl (.cons rfl (.cons rfl (.cons rfl .nil)))))) (Nat.zero_le _) (fun _ h => h) ?_
      intro j hj
      by_cases hjl : j < as_.length
      case neg =>
        obtain rfl : j = as_.length := by omega
        (refine hc_seq ?_; refine hc_seq ?_; refine hc_lex ?_; refine hx_plain rfl ?_; refine h_move rfl rfl rfl rfl ?_; refine hx_plain rfl ?_; refine h_move rfl rfl rfl rfl ?_; refine hx_plain rfl ?_; refine h_len_slice rfl rfl rfl UC.out rfl rfl rfl ?_; refine hx_plain rfl ?_; refine h_cmp rfl rfl rfl rfl rfl rfl ?_; refine hx_nil ?_; refine hq_then ?_; refine hc_condDF rfl (by omega) ?_; refine hc_exit ?_; refine hq_exit_then ?_; refine hq_exit_then ?_)
        refine hq_cut () trivial (.cons rfl (.cons rfl (.cons rfl (.cons rfl (.cons rfl .nil))))) (fun _ h => ?_)
        have h1 := ShG_congr (fun p _ => AlI p (setsR ps (i + 1) e0)) (fun x k hk => by rw [if_pos hk]) (h.perm (List.Perm.swap _ _ _))
        exact h1.perm (List.Perm.swap _ _ _)
      obtain ⟨p, hp⟩ : ∃ p, as_[j]? = some p := ⟨_, List.getElem?_eq_getElem hjl⟩
      have e2 : as_[((j : Nat) : Int).toNat]? = some p := by rw [show ((j : Nat) : Int).toNat = j by omega, hp]
      refine hc_rowV .head (fun _ e => by rw [e] at hjl; exact absurd hjl (Nat.not_lt_zero _)) ?_
      intro gr cr' e
      injection e with e4 e5 e6
      subst e4 e6
      refine hc_open (.tail .head) (ShG_open hp) ?_
      rintro ⟨⟩
      rw [if_neg (Nat.lt_irrefl j)]
      (refine hc_seq ?_; refine hc_seq ?_; refine hc_lex ?_; refine hx_plain rfl ?_; refine h_move rfl rfl rfl rfl ?_; refine hx_plain rfl ?_; refine h_move rfl rfl rfl rfl ?_; refine hx_plain rfl ?_; refine h_len_slice rfl rfl rfl UC.out rfl rfl rfl ?_; refine hx_plain rfl ?_; refine h_cmp rfl rfl rfl rfl rfl rfl ?_; refine hx_nil ?_; refine hq_then ?_; refine hc_condDT rfl (by omega) ?_; refine hc_skip ?_; refine hq_then ?_; refine hc_seq ?_; refine hc_block ?_; refine hc_draw0 (by kernel_rfl) (by kernel_rfl) ?_; refine hx_plain rfl ?_; refine h_move rfl rfl rfl rfl ?_; refine hx_plain rfl ?_; refine h_move rfl rfl rfl rfl ?_; refine hx_plain rfl ?_; refine h_rowAddr rfl rfl rfl UC.out IC.size (by omega) (by omega) rfl rfl ?_; refine hx_plain rfl ?_; refine h_rowLoad1 rfl (.tail (.tail .head)) rfl UC.out rfl (by with_reducible assumption) rfl rfl rfl ?_; refine hx_plain rfl ?_; refine h_move rfl rfl rfl rfl ?_; refine hx_plain rfl ?_; refine h_move rfl rfl rfl rfl ?_; refine hx_plain rfl ?_; refine h_indexAddr rfl rfl rfl UC.out IC.size (by omega) (by omega) rfl rfl ?_; refine hx_plain rfl ?_; refine h_fieldAddr rfl rfl FC.out rfl rfl ?_; refine hx_plain rfl ?_; refine h_rdLoad rfl r1 rfl UC.out rfl (by with_reducible assumption) rfl rfl rfl ?_; refine hx_plain rfl ?_; refine h_move rfl rfl rfl rfl ?_; refine hx_plain rfl ?_; refine h_move rfl rfl rfl rfl ?_; refine hx_plain rfl ?_; refine h_indexAddr rfl rfl rfl UC.out IC.size (by omega) (by omega) rfl rfl ?_; refine hx_plain rfl ?_; refine h_fieldAddr rfl rfl FC.out rfl rfl ?_; refine hx_plain rfl ?_; refine h_rdLoad rfl r1 rfl UC.out rfl (by with_reducible assumption) rfl rfl rfl ?_; refine hx_plain rfl ?_)
      refine h_call rfl rfl rfl rfl rfl rfl rfl rfl EC.out (.cons .head .nil) (AI.set_spec p A t.K t.At hinv.1.wf (by omega)) ?_
      rintro u M ⟨rfl, rfl⟩
      (refine hx_nil ?_; refine hq_norm_block ?_; refine hq_then ?_; refine hc_lex ?_; refine hx_plain rfl ?_; refine h_move rfl rfl rfl rfl ?_; refine hx_plain rfl ?_; refine h_arithI rfl rfl rfl rfl (by omega) rfl rfl ?_; refine hx_plain rfl ?_; refine h_assign rfl rfl rfl rfl ?_; refine hx_nil ?_)
      refine hq_round (j + 1) (by omega) (by omega) (.cons rfl (.cons rfl (.cons rfl (.cons rfl (.cons rfl (.cons rfl .nil)))))) (fun _ h => ?_)
      have h1 := ShG_shut (fun p k => AlI p (if k < j + 1 then setsR ps (i + 1) e0 else A)) hp (by rw [if_pos (Nat.lt_succ_self j), hsucc]) (fun x k hk => by rw [if_stepS hk]) h
      exact (h1.perm (List.Perm.swap _ _ _)).rowV_mk
    rintro ⟨⟩ _
    (refine hq_exit_block ?_; refine hq_norm_block ?_; refine hq_then ?_; refine hc_lex ?_; refine hx_plain rfl ?_; refine h_move rfl rfl rfl rfl ?_; refine hx_plain rfl ?_; refine h_arithI rfl rfl rfl rfl (by omega) rfl rfl ?_; refine hx_plain rfl ?_; refine h_assign rfl rfl rfl rfl ?_; refine hx_nil ?_)
    exact hq_round (i + 1) (by omega) (by omega) (.cons rfl (.cons rfl (.cons rfl (.cons rfl (.cons rfl .nil))))) (fun _ h => h)
  rintro ⟨⟩ _
  have hinv := ha (lim ps) (by omega)
  obtain ⟨A, hA⟩ : ∃ A, setsR ps (lim ps) e0 = A := ⟨_, rfl⟩
  rw [hA] at hinv rk ⊢
  obtain ⟨ks, hks⟩ : ∃ ks, (A.due IT now).1 = ks := ⟨_, rfl⟩
  have hkl := due_len hinv.1 now
  rw [hks] at hkl rk
  (refine hq_exit_block ?_; refine hq_then ?_; refine hc_seq ?_; refine hc_lex ?_; refine hx_plain rfl ?_; refine h_assign rfl rfl rfl rfl ?_; refine hx_nil ?_; refine hq_then ?_; refine hc_seq ?_; refine hc_seq ?_; refine hc_lex ?_; refine hx_plain rfl ?_; refine h_assign rfl rfl rfl rfl ?_; refine hx_nil ?_; refine hq_then ?_; refine hc_block ?_)
  obtain ⟨B, hB⟩ : ∃ B, (A.due IT now).2 = B := ⟨_, rfl⟩
  have hdue : ∀ p, Spec Try.prog 10 [.pointer (some ⟨p, 0, none⟩), .int .i64 now] [AlI p A] (fun u M => ∃ a c, u = .slice a ks.length c ∧ M = [AlI p B, RowV intE 3 u ks]) := fun p => by
    have h1 := AI.due_spec p A now hinv.1 (by omega)
    rw [show AS.due AI.T A now = AS.due IT A now from rfl, hks, hB] at h1
    exact h1.shape2
  refine hc_cut (id := 6) (Y := List SlV × Value) (fun y => [(2, v2), (12, y.2)]) (fun y => [RowV slE 29 y.2 y.1, ShG (fun (s : SlV) _ => RowV intE 3 s.v ks) y.1]) (fun y => y.1.length = 40) ?_ ?_
  · refine hc_loop (X := Nat × List SlV × Value) (fun x => [(1, .int .i64 now), (2, v2), (7, .slice ar as_.length cr), (12, x.2.2), (13, .int .i64 (x.1 : Int))]) (fun x => [RowV pntE 24 (.slice ar as_.length cr) as_, ShG (fun p k => AlI p (if k < x.1 then B else A)) as_, RowV slE 29 x.2.2 x.2.1, ShG (fun (s : SlV) _ => RowV intE 3 s.v ks) x.2.1]) (fun x => x.1 ≤ as_.length ∧ x.2.1.length = x.1) (fun x => as_.length - x.1) (0, [], .slice none 0 0) (.cons rfl (.cons rfl (.cons rfl (.cons rfl (.cons rfl .nil))))) ⟨Nat.zero_le _, rfl⟩ (fun _ h => (St.rowV_nil (E := slE) (T := 29) (ShG_nil (G := fun (s : SlV) _ => RowV intE 3 s.v ks) h)).sub (.cons (.tail (.tail .head)) (.cons (.tail (.tail .head)) (.cons .head (.cons .head .nil))))) ?_
    rintro ⟨j, ls, vl⟩ ⟨hj, hls⟩
    dsimp only at hj hls ⊢
    by_cases hjl : j < as_.length
    case neg =>
      (refine hc_seq ?_; refine hc_seq ?_; refine hc_lex ?_; refine hx_plain rfl ?_; refine h_move rfl rfl rfl rfl ?_; refine hx_plain rfl ?_; refine h_move rfl rfl rfl rfl ?_; refine hx_plain rfl ?_; refine h_len_slice rfl rfl rfl UC.out rfl rfl rfl ?_; refine hx_plain rfl ?_; refine h_cmp rfl rfl rfl rfl rfl rfl ?_; refine hx_nil ?_; refine hq_then ?_; refine hc_condDF rfl (by omega) ?_; refine hc_exit ?_; refine hq_exit_then ?_; refine hq_exit_then ?_)
      exact hq_cut (ls, vl) (by show ls.length = 40; omega) (.cons rfl (.cons rfl .nil)) (fun _ h => h.sub (.cons (.tail (.tail .head)) (.cons (.tail (.tail .head)) .nil)))
    obtain ⟨p, hp⟩ : ∃ p, as_[j]? = some p := ⟨_, List.getElem?_eq_getElem hjl⟩
    have e2 : as_[((j : Nat) : Int).toNat]? = some p := by rw [show ((j : Nat) : Int).toNat = j by omega, hp]
    refine hc_rowV .head (fun _ e => by rw [e] at hjl; exact absurd hjl (Nat.not_lt_zero _)) ?_
    intro gr cr' e
    injection e with e4 e5 e6
    subst e4 e6
    refine hc_open (.tail .head) (ShG_open hp) ?_
    rintro ⟨⟩
    rw [if_neg (Nat.lt_irrefl j)]
    (refine hc_seq ?_; refine hc_seq ?_; refine hc_lex ?_; refine hx_plain rfl ?_; refine h_move rfl rfl rfl rfl ?_; refine hx_plain rfl ?_; refine h_move rfl rfl rfl rfl ?_; refine hx_plain rfl ?_; refine h_len_slice rfl rfl rfl UC.out rfl rfl rfl ?_; refine hx_plain rfl ?_; refine h_cmp rfl rfl rfl rfl rfl rfl ?_; refine hx_nil ?_; refine hq_then ?_; refine hc_condDT rfl (by omega) ?_; refine hc_skip ?_; refine hq_then ?_; refine hc_seq ?_; refine hc_block ?_; refine hc_lex ?_; refine hx_plain rfl ?_; refine h_move rfl rfl rfl rfl ?_; refine hx_plain rfl ?_; refine h_move rfl rfl rfl rfl ?_; refine hx_plain rfl ?_; refine h_move rfl rfl rfl rfl ?_; refine hx_plain rfl ?_; refine h_rowAddr rfl rfl rfl UC.out IC.size (by omega) (by omega) rfl rfl ?_; refine hx_plain rfl ?_; refine h_rowLoad1 rfl (.tail (.tail .head)) rfl UC.out rfl (by with_reducible assumption) rfl rfl rfl ?_; refine hx_plain rfl ?_; refine h_move rfl rfl rfl rfl ?_; refine hx_plain rfl ?_)
    refine h_call rfl rfl rfl rfl rfl rfl rfl rfl EC.out (.cons .head .nil) (hdue p) ?_
    rintro u M ⟨an, cn, rfl, rfl⟩
    (refine hx_plain rfl ?_; (refine h_buildSlice rfl rfl rfl UC.out IC.size IC.zero rfl rfl (by intro v hv; simp at hv; first | (subst hv; rfl) | (rcases hv with rfl | rfl <;> rfl) | (rcases hv with rfl | rfl | rfl <;> rfl)) (by omega) rfl rfl (fun _ => ?_)); refine hx_plain rfl ?_)
    refine h_append (m := 1) (E := slE) (T := 29) (xs := ls) (ys := [⟨an, ks.length, cn⟩]) rfl rfl rfl rfl rfl UC.out IC.out rfl (.cons (.tail (.tail (.tail (.tail (.tail .head))))) (.cons .head .nil)) rfl (one_row slE _) (by unfold maxLen; omega) (by omega) rfl rfl (fun vl' _ => ?_)
    (refine hx_plain rfl ?_; refine h_assign rfl rfl rfl rfl ?_; refine hx_nil ?_; refine hq_norm_block ?_; refine hq_then ?_; refine hc_lex ?_; refine hx_plain rfl ?_; refine h_move rfl rfl rfl rfl ?_; refine hx_plain rfl ?_; refine h_arithI rfl rfl rfl rfl (by omega) rfl rfl ?_; refine hx_plain rfl ?_; refine h_assign rfl rfl rfl rfl ?_; refine hx_nil ?_)
    refine hq_round (j + 1, ls ++ [⟨an, ks.length, cn⟩], vl') (by show as_.length - (j + 1) < as_.length - j; omega) ⟨by show j + 1 ≤ as_.length; omega, by show (ls ++ [_]).length = j + 1; rw [List.length_append, hls]; rfl⟩ (.cons rfl (.cons rfl (.cons rfl (.cons rfl (.cons rfl .nil))))) (fun _ h => ?_)
    have h1 := ShG_shut (fun p k => AlI p (if k < j + 1 then B else A)) hp (by rw [if_pos (Nat.lt_succ_self j)]) (fun x k hk => by rw [if_stepS hk]) (h.sub (.cons (.tail (.tail .head)) (.cons (.tail (.tail (.tail .head))) (.cons (.tail (.tail (.tail .head))) (.cons .head (.cons (.tail .head) (.cons (.tail .head) .nil)))))))
    have h2 := (h1.sub (.cons (.tail .head) (.cons .head (.cons .head (.cons .head (.cons .head .nil)))))).rowV_mk
    have h3 := ShG_snoc (G := fun (s : SlV) _ => RowV intE 3 s.v ks) (ps := ls) (p := ⟨an, ks.length, cn⟩) (h2.sub (.cons (.tail (.tail (.tail (.tail .head)))) (.cons (.tail (.tail (.tail .head))) (.cons .head (.cons .head (.cons .head .nil))))))
    exact h3.sub (.cons (.tail .head) (.cons (.tail .head) (.cons (.tail .head) (.cons .head .nil))))
  rintro ⟨ls, vl⟩ hls
  dsimp only at hls ⊢
  refine hq_know (fun _ h => h.rowV_shapeS .head) ?_
  rintro ⟨al, cl, rfl⟩
  (refine hq_exit_block ?_; refine hq_then ?_; refine hc_seq ?_; refine hc_lex ?_; refine hx_plain rfl ?_; refine h_move rfl rfl rfl rfl ?_; refine hx_plain rfl ?_)
  refine h_callW (post := fun u M => M = [RowV intE 3 u ks]) rfl rfl rfl rfl rfl rfl rfl rfl EC.out (fun w' h => ints_makes (h.rd rk) (by omega)) ?_
  rintro vw M rfl
  (refine hx_plain rfl ?_; refine h_assign rfl rfl rfl rfl ?_; refine hx_nil ?_; refine hq_then ?_; refine hc_seq ?_; refine hc_lex ?_; refine hx_plain rfl ?_; refine h_build rfl inferInstance rfl rfl rfl rfl ?_; refine hx_plain rfl ?_; (refine h_box rfl rfl rfl rfl rfl rfl (fun _ => ?_)); refine hx_plain rfl ?_; refine h_assign rfl rfl rfl rfl ?_; refine hx_nil ?_; refine hq_then ?_; refine hc_seq ?_; refine hc_seq ?_; refine hc_lex ?_; refine hx_plain rfl ?_; refine h_assign rfl rfl rfl rfl ?_; refine hx_nil ?_; refine hq_then ?_; refine hc_block ?_)
  rename_i kb
  refine hc_cut (id := 8) (Y := List (SlV × Nat)) (fun _ => [(15, .pointer (some ⟨kb, 0, none⟩))]) (fun y => [BkO kb y]) (fun y => y.length = 120) ?_ ?_
  · refine hc_loop (X := Nat × List (SlV × Nat)) (fun x => [(12, .slice al ls.length cl), (14, vw), (15, .pointer (some ⟨kb, 0, none⟩)), (16, .int .i64 (x.1 : Int))]) (fun x => [BkO kb x.2, RowV slE 29 (.slice al ls.length cl) ls, RowV intE 3 vw ks, All ((shL (fun (s : SlV) _ => RowV intE 3 s.v ks) ls).drop x.1)]) (fun x => x.1 ≤ ls.length ∧ x.2.length = 3 * x.1) (fun x => ls.length - x.1) (0, []) (.cons rfl (.cons rfl (.cons rfl (.cons rfl .nil)))) ⟨Nat.zero_le _, rfl⟩ (fun _ h => (BkO_new h).sub (.cons .head (.cons (.tail .head) (.cons .head (.cons .head .nil))))) ?_
    rintro ⟨i, es⟩ ⟨hi, hel⟩
    dsimp only at hi hel ⊢
    by_cases hlt : i < ls.length
    case neg =>
      (refine hc_seq ?_; refine hc_seq ?_; refine hc_lex ?_; refine hx_plain rfl ?_; refine h_move rfl rfl rfl rfl ?_; refine hx_plain rfl ?_; refine h_move rfl rfl rfl rfl ?_; refine hx_plain rfl ?_; refine h_len_slice rfl rfl rfl UC.out rfl rfl rfl ?_; refine hx_plain rfl ?_; refine h_cmp rfl rfl rfl rfl rfl rfl ?_; refine hx_nil ?_; refine hq_then ?_; refine hc_condDF rfl (by omega) ?_; refine hc_exit ?_; refine hq_exit_then ?_; refine hq_exit_then ?_)
      exact hq_cut es (by omega) (.cons rfl .nil) (fun _ h => h.sub (.cons .head .nil))
    obtain ⟨s, hs⟩ : ∃ s, ls[i]? = some s := ⟨_, List.getElem?_eq_getElem hlt⟩
    have e1 : ls[((i : Nat) : Int).toNat]? = some s := by rw [show ((i : Nat) : Int).toNat = i by omega, hs]
    have hll : i < (shL (fun (s : SlV) _ => RowV intE 3 s.v ks) ls).length := by unfold shL; rw [List.length_map, List.length_zipIdx]; exact hlt
    have hgt : (shL (fun (s : SlV) _ => RowV intE 3 s.v ks) ls)[i] = RowV intE 3 s.v ks := by
      apply Option.some.inj
      rw [← List.getElem?_eq_getElem hll, shL_get hs]
    refine hc_rowV (.tail .head) (fun _ e => by rw [e] at hlt; exact absurd hlt (Nat.not_lt_zero _)) ?_
    intro gl' cl' e
    injection e with e4 e5 e6
    subst e4 e6
    refine hc_open (.tail (.tail (.tail .head))) (ShG_drop hll) ?_
    rintro ⟨⟩
    rw [hgt]
    (refine hc_seq ?_; refine hc_seq ?_; refine hc_lex ?_; refine hx_plain rfl ?_; refine h_move rfl rfl rfl rfl ?_; refine hx_plain rfl ?_; refine h_move rfl rfl rfl rfl ?_; refine hx_plain rfl ?_; refine h_len_slice rfl rfl rfl UC.out rfl rfl rfl ?_; refine hx_plain rfl ?_; refine h_cmp rfl rfl rfl rfl rfl rfl ?_; refine hx_nil ?_; refine hq_then ?_; refine hc_condDT rfl (by omega) ?_; refine hc_skip ?_; refine hq_then ?_; refine hc_seq ?_; refine hc_block ?_; refine hc_seq ?_; refine hc_lex ?_; refine hx_plain rfl ?_; refine h_move rfl rfl rfl rfl ?_; refine hx_plain rfl ?_; refine h_move rfl rfl rfl rfl ?_; refine hx_plain rfl ?_; refine h_rowAddr rfl rfl rfl UC.out IC.size (by omega) (by omega) rfl rfl ?_; refine hx_plain rfl ?_; refine h_rowLoad1 rfl (.tail (.tail .head)) rfl UC.out rfl (by with_reducible assumption) rfl rfl rfl ?_; refine hx_plain rfl ?_; refine h_move rfl rfl rfl rfl ?_; refine hx_plain rfl ?_)
    refine h_callRd rfl rfl rfl rfl rfl rfl EC.out (fun w' h => sameInts (h.rdRowV .head) (h.rdRowV (.tail (.tail (.tail (.tail .head)))))) ?_
    rw [decide_eq_true rfl]
    (refine hx_plain rfl ?_; refine h_assign rfl rfl rfl rfl ?_; refine hx_nil ?_; refine hq_then ?_; refine hc_seq ?_; refine hc_seq ?_; refine hc_lex ?_; refine hx_plain rfl ?_; refine h_move rfl rfl rfl rfl ?_; refine hx_plain rfl ?_; refine h_not rfl rfl rfl rfl ?_; refine hx_nil ?_; refine hq_then ?_; refine hc_condF rfl ?_; refine hc_skip ?_; refine hq_then ?_; refine hc_lex ?_; refine hx_plain rfl ?_; refine h_move rfl rfl rfl rfl ?_; refine hx_plain rfl ?_; refine h_move rfl rfl rfl rfl ?_; refine hx_plain rfl ?_; refine h_move rfl rfl rfl rfl ?_; refine hx_plain rfl ?_; refine h_rowAddr rfl rfl rfl UC.out IC.size (by omega) (by omega) rfl rfl ?_; refine hx_plain rfl ?_; refine h_rowLoad1 rfl (.tail (.tail .head)) rfl UC.out rfl (by with_reducible assumption) rfl rfl rfl ?_; refine hx_plain rfl ?_)
    refine h_call rfl rfl rfl rfl rfl rfl rfl rfl EC.out (.cons (.tail (.tail (.tail .head))) (.cons .head .nil)) (keep_spec kb es s.v ks (by omega) (by omega) (by omega)) ?_
    rintro u M ⟨rfl, es', hel', rfl⟩
    (refine hx_nil ?_; refine hq_norm_block ?_; refine hq_then ?_; refine hc_lex ?_; refine hx_plain rfl ?_; refine h_move rfl rfl rfl rfl ?_; refine hx_plain rfl ?_; refine h_arithI rfl rfl rfl rfl (by omega) rfl rfl ?_; refine hx_plain rfl ?_; refine h_assign rfl rfl rfl rfl ?_; refine hx_nil ?_)
    exact hq_round (i + 1, es') (by show ls.length - (i + 1) < ls.length - i; omega) ⟨by show i + 1 ≤ ls.length; omega, by show es'.length = 3 * (i + 1); omega⟩ (.cons rfl (.cons rfl (.cons rfl (.cons rfl .nil)))) (fun _ h => (h.sub (.cons (.tail (.tail .head)) (.cons .head (.cons (.tail .head) (.cons .head .nil))))).rowV_mk.sub (.cons (.tail .head) (.cons .head (.cons .head (.cons .head .nil)))))
  rintro es hel
  (refine hq_exit_block ?_; refine hq_then ?_; refine hc_seq ?_; refine hc_lex ?_; refine hx_plain rfl ?_; refine h_move rfl rfl rfl rfl ?_; refine hx_plain rfl ?_)
  refine h_call rfl rfl rfl rfl rfl rfl rfl rfl EC.out (.cons .head .nil) (whole_spec kb es (by omega)) ?_
  rintro u M ⟨rfl, rfl⟩
  (refine hx_plain rfl ?_; refine h_assign rfl rfl rfl rfl ?_; refine hx_nil ?_; refine hq_then ?_; refine hc_ret ?_)
  exact hq_ret1 (.inr rfl) rfl rfl ⟨rfl, rfl⟩ (fun _ h => h.emp)
end Go.Proofs.Ytggohplddejniaa
