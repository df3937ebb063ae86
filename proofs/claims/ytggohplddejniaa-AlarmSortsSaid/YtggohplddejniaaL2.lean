import Derived.Test.YtggohplddejniaaL1
namespace Go.Proofs.Ytggohplddejniaa
open Go Go.Proofs
set_option maxRecDepth 4000

structure Pair where
  K : Int
  At : Int
def pairE : Elem Pair where
  sz := 2
  pos := by decide
  enc t := [.int .i64 t.K, .int .i64 t.At]
  len _ := rfl
  one t v hv := by
    simp at hv
    rcases hv with rfl | rfl <;> rfl
def updP (p q : Pair) : Pair := if q.K = p.K then ⟨q.K, p.At⟩ else q
def hasP (l : List Pair) (k : Int) : Bool := l.any (fun q => decide (q.K = k))
def lastS (l : List Pair) (p : Pair) : List Pair := if hasP l p.K = true then l.map (updP p) else l ++ [p]
def lastR (ps : List Pair) (i : Nat) : List Pair := (ps.take i).foldl lastS []
theorem lastR_succ {ps : List Pair} {i : Nat} (h : i < ps.length) : lastR ps (i + 1) = lastS (lastR ps i) ps[i] := by
  unfold lastR
  rw [List.take_succ_eq_append_getElem h, List.foldl_append]
  rfl
theorem lastS_len (l : List Pair) (p : Pair) : (lastS l p).length ≤ l.length + 1 := by
  unfold lastS
  split <;> simp
theorem lastR_len (ps : List Pair) : ∀ i, (lastR ps i).length ≤ i
  | 0 => by simp [lastR]
  | i + 1 => by
    by_cases h : i < ps.length
    · rw [lastR_succ h]
      have := lastS_len (lastR ps i) ps[i]
      have := lastR_len ps i
      omega
    · have : lastR ps (i + 1) = lastR ps i := by unfold lastR; rw [List.take_of_length_le (by omega), List.take_of_length_le (by omega)]
      rw [this]
      have := lastR_len ps i
      omega
/-- How far 'last' and the laws look. -/
def lim (ps : List Pair) : Nat := min ps.length 300

theorem stepL {α : Type} (f : α → α) {l : List α} {j : Nat} (h : j < l.length) : ((l.take j).map f ++ l.drop j).set j (f l[j]) = (l.take (j + 1)).map f ++ l.drop (j + 1) := by
  rw [List.take_succ_eq_append_getElem h, List.map_append, List.append_assoc, List.set_append_right _ _ (by simp; omega)]
  simp only [List.length_map, List.length_take, Nat.min_eq_left (Nat.le_of_lt h), Nat.sub_self]
  rw [List.drop_eq_getElem_cons h]
  rfl
theorem stepL_same {α : Type} (f : α → α) {l : List α} {j : Nat} (h : j < l.length) (e : f l[j] = l[j]) : (l.take j).map f ++ l.drop j = (l.take (j + 1)).map f ++ l.drop (j + 1) := by
  rw [List.take_succ_eq_append_getElem h, List.map_append, List.append_assoc, List.drop_eq_getElem_cons h]
  simp [e]
theorem stepL_get {α : Type} (f : α → α) {l : List α} {j : Nat} (h : j < l.length) : ((l.take j).map f ++ l.drop j)[j]? = some l[j] := by
  rw [List.getElem?_append_right (by simp; omega)]
  simp [Nat.min_eq_left (Nat.le_of_lt h), h]
theorem hasP_succ {l : List Pair} {j : Nat} (h : j < l.length) (k : Int) : hasP (l.take (j + 1)) k = (hasP (l.take j) k || decide (l[j].K = k)) := by
  unfold hasP
  rw [List.take_succ_eq_append_getElem h, List.any_append]
  simp only [List.any_cons, List.any_nil, Bool.or_false]
theorem updP_not {l : List Pair} {p : Pair} (h : hasP l p.K = false) : l.map (updP p) = l := by
  have : ∀ q ∈ l, updP p q = q := fun q hq => by
    unfold updP
    rw [if_neg (fun e => by
      have : hasP l p.K = true := List.any_eq_true.2 ⟨q, hq, by simpa using e⟩
      rw [h] at this; cases this)]
  rw [List.map_congr_left this, List.map_id']

set_option maxHeartbeats 4000000 in
theorem last_spec {ps : List Pair} {w : World} {v0 : Value} (h1 : Rd pairE w v0 ps) :
    Calls Try.prog 12 [v0].toArray w (fun en w' => ∃ v, en = .returned v ∧ St w nowhere [RowV pairE 28 v (lastR ps (lim ps))] w') := by
  obtain ⟨a1, c1, rfl, l1, m1, k1⟩ := h1
  unfold maxLen at m1
  refine (spec_at (pre := []) (F := nowhere) (post := fun v M => M = [RowV pairE 28 v (lastR ps (lim ps))]) Try.func12 rfl rfl (Nat.le_of_ble_eq_true rfl) trivial ?_).mono (fun en w' ⟨v, M, h1, h2, h3⟩ => ⟨v, h1, by rw [← h2]; exact h3⟩)
  have hlim : lim ps ≤ ps.length ∧ lim ps ≤ 300 ∧ (lim ps = ps.length ∨ lim ps = 300) := by unfold lim; omega
  (refine hc_seq ?_; refine hc_lex ?_; refine hx_plain rfl ?_; refine h_assign rfl rfl rfl rfl ?_; refine hx_nil ?_; refine hq_then ?_; refine hc_seq ?_; refine hc_lex ?_; refine hx_plain rfl ?_; refine h_assign rfl rfl rfl rfl ?_; refine hx_nil ?_; refine hq_then ?_; refine hc_seq ?_; refine hc_seq ?_; refine hc_lex ?_; refine hx_plain rfl ?_; refine h_assign rfl rfl rfl rfl ?_; refine hx_nil ?_; refine hq_then ?_; refine hc_block ?_)
  refine hc_cut (id := 0) (Y := Value) (fun v => [(3, v)]) (fun v => [RowV pairE 28 v (lastR ps (lim ps))]) (fun _ => True) ?_ ?_
  · refine hc_loop (X := Nat × Value) (fun x => [(0, .slice a1 ps.length c1), (3, x.2), (4, .int .i64 (x.1 : Int))]) (fun x => [RowV pairE 28 x.2 (lastR ps x.1)]) (fun x => x.1 ≤ lim ps) (fun x => lim ps - x.1) (0, .slice none 0 0) (.cons rfl (.cons rfl (.cons rfl .nil))) (Nat.zero_le _) (fun _ h => St.rowV_nil h) ?_
    rintro ⟨i, v⟩ hi
    dsimp only at hi ⊢
    by_cases hlt : i < lim ps
    · have hps : ps ≠ [] := by
        intro e
        have : ps.length = 0 := by rw [e]; rfl
        omega
      obtain ⟨g1, o1, rfl, r1⟩ := k1.resolve_left hps
      clear k1
      have e1 : ps[((i : Nat) : Int).toNat]? = some (ps[i]'(by omega)) := List.getElem?_eq_getElem (by omega)
      have hsucc := lastR_succ (ps := ps) (i := i) (by omega)
      have hll := lastR_len ps i
      obtain ⟨p, hp⟩ : ∃ p, ps[i]'(by omega) = p := ⟨_, rfl⟩
      rw [hp] at e1 hsucc
      obtain ⟨l, hl⟩ : ∃ l, lastR ps i = l := ⟨_, rfl⟩
      rw [hl] at hsucc hll ⊢
      refine hc_rowV .head ?_ ?_
      · intro e2 e3
        subst e2 e3
        (refine hc_seq ?_; refine hc_seq ?_; refine hc_lex ?_; refine hx_plain rfl ?_; refine h_move rfl rfl rfl rfl ?_; refine hx_plain rfl ?_; refine h_move rfl rfl rfl rfl ?_; refine hx_plain rfl ?_; refine h_len_slice rfl rfl rfl UC.out rfl rfl rfl ?_; refine hx_plain rfl ?_; refine h_cmp rfl rfl rfl rfl rfl rfl ?_; refine hx_plain rfl ?_; refine h_move rfl rfl rfl rfl ?_; refine hx_gT rfl rfl rfl (by omega) ?_; refine hx_yes rfl rfl rfl ?_; refine h_move rfl rfl rfl rfl ?_; refine hx_yes rfl rfl rfl ?_; refine h_cmp rfl rfl rfl rfl rfl rfl ?_; refine hx_plain rfl ?_; refine h_pickT rfl rfl rfl rfl rfl ?_; refine hx_nil ?_; refine hq_then ?_; refine hc_condDT rfl (by omega) ?_; refine hc_skip ?_; refine hq_then ?_; refine hc_seq ?_; refine hc_block ?_; refine hc_seq ?_; refine hc_lex ?_; refine hx_plain rfl ?_; refine h_assign rfl rfl rfl rfl ?_; refine hx_nil ?_; refine hq_then ?_; refine hc_seq ?_; refine hc_seq ?_; refine hc_lex ?_; refine hx_plain rfl ?_; refine h_assign rfl rfl rfl rfl ?_; refine hx_nil ?_; refine hq_then ?_; refine hc_block ?_)
        refine hc_cut (id := 2) (Y := Unit) (fun _ => [(0, .slice (some ⟨g1, o1, none⟩) ps.length c1), (3, .slice none 0 0), (4, .int .i64 (i : Int)), (5, .bool false)]) (fun _ => []) (fun _ => True) ?_ ?_
        · refine hc_loop (X := Unit) (fun _ => [(0, .slice (some ⟨g1, o1, none⟩) ps.length c1), (3, .slice none 0 0), (4, .int .i64 (i : Int)), (5, .bool false), (6, .int .i64 0)]) (fun _ => []) (fun _ => True) (fun _ => 0) () (.cons rfl (.cons rfl (.cons rfl (.cons rfl (.cons rfl .nil))))) trivial (fun _ h => h) ?_
          rintro _ _
          (refine hc_seq ?_; refine hc_seq ?_; refine hc_lex ?_; refine hx_plain rfl ?_; refine h_move rfl rfl rfl rfl ?_; refine hx_plain rfl ?_; refine h_move rfl rfl rfl rfl ?_; refine hx_plain rfl ?_; refine h_len_slice rfl rfl rfl UC.out rfl rfl rfl ?_; refine hx_plain rfl ?_; refine h_cmp rfl rfl rfl rfl rfl rfl ?_; refine hx_nil ?_; refine hq_then ?_; refine hc_condF rfl ?_; refine hc_exit ?_; refine hq_exit_then ?_; refine hq_exit_then ?_)
          exact hq_cut () trivial (.cons rfl (.cons rfl (.cons rfl (.cons rfl .nil)))) (fun _ h => h)
        · rintro _ _
          (refine hq_exit_block ?_; refine hq_then ?_; refine hc_seq ?_; refine hc_lex ?_; refine hx_plain rfl ?_; refine h_move rfl rfl rfl rfl ?_; refine hx_plain rfl ?_; refine h_not rfl rfl rfl rfl ?_; refine hx_nil ?_; refine hq_then ?_; refine hc_condT rfl ?_; refine hc_lex ?_; refine hx_plain rfl ?_; refine h_move rfl rfl rfl rfl ?_; refine hx_plain rfl ?_; refine h_move rfl rfl rfl rfl ?_; refine hx_plain rfl ?_; refine h_move rfl rfl rfl rfl ?_; refine hx_plain rfl ?_; refine h_indexAddr rfl rfl rfl UC.out IC.size (by omega) (by omega) rfl rfl ?_; refine hx_plain rfl ?_; refine h_rdLoadN rfl r1 rfl UC.out rfl IC.size (by with_reducible assumption) rfl rfl rfl ?_; refine hx_plain rfl ?_; (refine h_buildSlice rfl rfl rfl UC.out IC.size IC.zero rfl rfl (by intro v hv; simp at hv; first | (subst hv; rfl) | (rcases hv with rfl | rfl <;> rfl) | (rcases hv with rfl | rfl | rfl <;> rfl)) (by omega) rfl rfl (fun _ => ?_)); refine hx_plain rfl ?_)
          refine h_appendNil pairE 28 [p] rfl rfl rfl rfl rfl UC.out IC.out rfl .head rfl rfl (one_row pairE _) (by unfold maxLen; omega) (by omega) rfl rfl (fun g' cap' => ?_)
          (refine hx_plain rfl ?_; refine h_assign rfl rfl rfl rfl ?_; refine hx_nil ?_; refine hq_norm_block ?_; refine hq_then ?_; refine hc_lex ?_; refine hx_plain rfl ?_; refine h_move rfl rfl rfl rfl ?_; refine hx_plain rfl ?_; refine h_arithI rfl rfl rfl rfl (by omega) rfl rfl ?_; refine hx_plain rfl ?_; refine h_assign rfl rfl rfl rfl ?_; refine hx_nil ?_)
          refine hq_round (i + 1, .slice (some ⟨g', 0, none⟩) 1 cap') (by show lim ps - (i + 1) < lim ps - i; omega) (by show i + 1 ≤ lim ps; omega) (.cons rfl (.cons rfl (.cons rfl .nil))) (fun _ h => ?_)
          show St w nowhere [RowV pairE 28 _ (lastR ps (i + 1))] _
          rw [hsucc]
          exact (St.rowV_mk (xs := [p]) h).sub (.cons .head .nil)
      · rintro g cap rfl
        (refine hc_seq ?_; refine hc_seq ?_; refine hc_lex ?_; refine hx_plain rfl ?_; refine h_move rfl rfl rfl rfl ?_; refine hx_plain rfl ?_; refine h_move rfl rfl rfl rfl ?_; refine hx_plain rfl ?_; refine h_len_slice rfl rfl rfl UC.out rfl rfl rfl ?_; refine hx_plain rfl ?_; refine h_cmp rfl rfl rfl rfl rfl rfl ?_; refine hx_plain rfl ?_; refine h_move rfl rfl rfl rfl ?_; refine hx_gT rfl rfl rfl (by omega) ?_; refine hx_yes rfl rfl rfl ?_; refine h_move rfl rfl rfl rfl ?_; refine hx_yes rfl rfl rfl ?_; refine h_cmp rfl rfl rfl rfl rfl rfl ?_; refine hx_plain rfl ?_; refine h_pickT rfl rfl rfl rfl rfl ?_; refine hx_nil ?_; refine hq_then ?_; refine hc_condDT rfl (by omega) ?_; refine hc_skip ?_; refine hq_then ?_; refine hc_seq ?_; refine hc_block ?_; refine hc_seq ?_; refine hc_lex ?_; refine hx_plain rfl ?_; refine h_assign rfl rfl rfl rfl ?_; refine hx_nil ?_; refine hq_then ?_; refine hc_seq ?_; refine hc_seq ?_; refine hc_lex ?_; refine hx_plain rfl ?_; refine h_assign rfl rfl rfl rfl ?_; refine hx_nil ?_; refine hq_then ?_; refine hc_block ?_)
        refine hc_cut (id := 2) (Y := Unit) (fun _ => [(0, .slice (some ⟨g1, o1, none⟩) ps.length c1), (3, .slice (some ⟨g, 0, none⟩) l.length cap), (4, .int .i64 (i : Int)), (5, .bool (hasP l p.K))]) (fun _ => [Row pairE 28 g cap (l.map (updP p))]) (fun _ => True) ?_ ?_
        · refine hc_loop (X := Nat) (fun j => [(0, .slice (some ⟨g1, o1, none⟩) ps.length c1), (3, .slice (some ⟨g, 0, none⟩) l.length cap), (4, .int .i64 (i : Int)), (5, .bool (hasP (l.take j) p.K)), (6, .int .i64 (j : Int))]) (fun j => [Row pairE 28 g cap ((l.take j).map (updP p) ++ l.drop j)]) (fun j => j ≤ l.length) (fun j => l.length - j) 0 (.cons rfl (.cons rfl (.cons rfl (.cons rfl (.cons rfl .nil))))) (Nat.zero_le _) (fun _ h => by simpa using h) ?_
          intro j hj
          by_cases hjl : j < l.length
          · have e2 : ((l.take j).map (updP p) ++ l.drop j)[((j : Nat) : Int).toNat]? = some l[j] := stepL_get _ hjl
            have hsub : l.length ≤ 300 := by omega
            (refine hc_seq ?_; refine hc_seq ?_; refine hc_lex ?_; refine hx_plain rfl ?_; refine h_move rfl rfl rfl rfl ?_; refine hx_plain rfl ?_; refine h_move rfl rfl rfl rfl ?_; refine hx_plain rfl ?_; refine h_len_slice rfl rfl rfl UC.out rfl rfl rfl ?_; refine hx_plain rfl ?_; refine h_cmp rfl rfl rfl rfl rfl rfl ?_; refine hx_nil ?_; refine hq_then ?_; refine hc_condDT rfl (by omega) ?_; refine hc_skip ?_; refine hq_then ?_; refine hc_seq ?_; refine hc_block ?_; refine hc_seq ?_; refine hc_draw0 (by kernel_rfl) (by kernel_rfl) ?_; refine hx_plain rfl ?_; refine h_move rfl rfl rfl rfl ?_; refine hx_plain rfl ?_; refine h_move rfl rfl rfl rfl ?_; refine hx_plain rfl ?_; refine h_rowAddr rfl rfl rfl UC.out IC.size (by omega) (by omega) rfl rfl ?_; refine hx_plain rfl ?_; refine h_fieldAddr rfl rfl FC.out rfl rfl ?_; refine hx_plain rfl ?_; refine h_rowLoad rfl .head rfl UC.out rfl (by with_reducible assumption) rfl rfl rfl ?_; refine hx_plain rfl ?_; refine h_move rfl rfl rfl rfl ?_; refine hx_plain rfl ?_; refine h_move rfl rfl rfl rfl ?_; refine hx_plain rfl ?_; refine h_indexAddr rfl rfl rfl UC.out IC.size (by omega) (by omega) rfl rfl ?_; refine hx_plain rfl ?_; refine h_fieldAddr rfl rfl FC.out rfl rfl ?_; refine hx_plain rfl ?_; refine h_rdLoad rfl r1 rfl UC.out rfl (by with_reducible assumption) rfl rfl rfl ?_; refine hx_plain rfl ?_; refine h_cmp rfl rfl rfl rfl rfl rfl ?_; refine hx_nil ?_; refine hq_then ?_; refine hc_condD rfl (fun hc => ?_) (fun hc => ?_); refine hc_seq ?_; refine hc_lex ?_; refine hx_plain rfl ?_; refine h_move rfl rfl rfl rfl ?_; refine hx_plain rfl ?_; refine h_move rfl rfl rfl rfl ?_; refine hx_plain rfl ?_; refine h_move rfl rfl rfl rfl ?_; refine hx_plain rfl ?_; refine h_move rfl rfl rfl rfl ?_; refine hx_plain rfl ?_; refine h_indexAddr rfl rfl rfl UC.out IC.size (by omega) (by omega) rfl rfl ?_; refine hx_plain rfl ?_; refine h_fieldAddr rfl rfl FC.out rfl rfl ?_; refine hx_plain rfl ?_; refine h_rdLoad rfl r1 rfl UC.out rfl (by with_reducible assumption) rfl rfl rfl ?_; refine hx_plain rfl ?_; refine h_rowAddr rfl rfl rfl UC.out IC.size (by omega) (by omega) rfl rfl ?_; refine hx_plain rfl ?_; refine h_fieldAddr rfl rfl FC.out rfl rfl ?_; refine hx_plain rfl ?_; rotate_left; refine hc_skip ?_; refine hq_norm_block ?_; refine hq_then ?_; refine hc_lex ?_; refine hx_plain rfl ?_; refine h_move rfl rfl rfl rfl ?_; refine hx_plain rfl ?_; refine h_arithI rfl rfl rfl rfl (by omega) rfl rfl ?_; refine hx_plain rfl ?_; refine h_assign rfl rfl rfl rfl ?_; refine hx_nil ?_; rotate_left)
            · have hup : updP p l[j] = ⟨l[j].K, p.At⟩ := if_pos hc
              refine h_rowStore (i := j) (off := 1) (q := l[j]) (z := ⟨l[j].K, p.At⟩) rfl rfl rfl .head rfl rfl rfl IC.size e2 rfl rfl (by decide) rfl ?_
              (refine hx_nil ?_; refine hq_then ?_; refine hc_lex ?_; refine hx_plain rfl ?_; refine h_assign rfl rfl rfl rfl ?_; refine hx_nil ?_; refine hq_norm_block ?_; refine hq_then ?_; refine hc_lex ?_; refine hx_plain rfl ?_; refine h_move rfl rfl rfl rfl ?_; refine hx_plain rfl ?_; refine h_arithI rfl rfl rfl rfl (by omega) rfl rfl ?_; refine hx_plain rfl ?_; refine h_assign rfl rfl rfl rfl ?_; refine hx_nil ?_)
              refine hq_round (j + 1) (by omega) (by omega) (.cons rfl (.cons rfl (.cons rfl (.cons (by show some _ = some _; rw [hasP_succ hjl, decide_eq_true hc, Bool.or_true]) (.cons rfl .nil))))) (fun _ h => ?_)
              rw [← stepL _ hjl, hup]
              exact h
            · have hup : updP p l[j] = l[j] := if_neg hc
              refine hq_round (j + 1) (by omega) (by omega) (.cons rfl (.cons rfl (.cons rfl (.cons (by show some _ = some _; rw [hasP_succ hjl, decide_eq_false hc, Bool.or_false]) (.cons rfl .nil))))) (fun _ h => ?_)
              rw [← stepL_same _ hjl hup]
              exact h
          · (refine hc_seq ?_; refine hc_seq ?_; refine hc_lex ?_; refine hx_plain rfl ?_; refine h_move rfl rfl rfl rfl ?_; refine hx_plain rfl ?_; refine h_move rfl rfl rfl rfl ?_; refine hx_plain rfl ?_; refine h_len_slice rfl rfl rfl UC.out rfl rfl rfl ?_; refine hx_plain rfl ?_; refine h_cmp rfl rfl rfl rfl rfl rfl ?_; refine hx_nil ?_; refine hq_then ?_; refine hc_condDF rfl (by omega) ?_; refine hc_exit ?_; refine hq_exit_then ?_; refine hq_exit_then ?_)
            refine hq_cut () trivial (.cons rfl (.cons rfl (.cons rfl (.cons (by show some _ = some _; rw [List.take_of_length_le (by omega)]) .nil)))) (fun _ h => ?_)
            rw [List.take_of_length_le (by omega), List.drop_of_length_le (by omega), List.append_nil] at h
            exact h
        · rintro _ _
          cases hh : hasP l p.K with
          | true =>
            (refine hq_exit_block ?_; refine hq_then ?_; refine hc_seq ?_; refine hc_lex ?_; refine hx_plain rfl ?_; refine h_move rfl rfl rfl rfl ?_; refine hx_plain rfl ?_; refine h_not rfl rfl rfl rfl ?_; refine hx_nil ?_; refine hq_then ?_; refine hc_condF rfl ?_; refine hc_skip ?_; refine hq_norm_block ?_; refine hq_then ?_; refine hc_lex ?_; refine hx_plain rfl ?_; refine h_move rfl rfl rfl rfl ?_; refine hx_plain rfl ?_; refine h_arithI rfl rfl rfl rfl (by omega) rfl rfl ?_; refine hx_plain rfl ?_; refine h_assign rfl rfl rfl rfl ?_; refine hx_nil ?_)
            refine hq_round (i + 1, .slice (some ⟨g, 0, none⟩) l.length cap) (by show lim ps - (i + 1) < lim ps - i; omega) (by show i + 1 ≤ lim ps; omega) (.cons rfl (.cons rfl (.cons rfl .nil))) (fun _ h => ?_)
            show St w nowhere [RowV pairE 28 _ (lastR ps (i + 1))] _
            rw [hsucc, lastS, if_pos hh]
            have := St.rowV_mk h
            rwa [List.length_map] at this
          | false =>
            rw [updP_not hh]
            (refine hq_exit_block ?_; refine hq_then ?_; refine hc_seq ?_; refine hc_lex ?_; refine hx_plain rfl ?_; refine h_move rfl rfl rfl rfl ?_; refine hx_plain rfl ?_; refine h_not rfl rfl rfl rfl ?_; refine hx_nil ?_; refine hq_then ?_; refine hc_condT rfl ?_; refine hc_lex ?_; refine hx_plain rfl ?_; refine h_move rfl rfl rfl rfl ?_; refine hx_plain rfl ?_; refine h_move rfl rfl rfl rfl ?_; refine hx_plain rfl ?_; refine h_move rfl rfl rfl rfl ?_; refine hx_plain rfl ?_; refine h_indexAddr rfl rfl rfl UC.out IC.size (by omega) (by omega) rfl rfl ?_; refine hx_plain rfl ?_; refine h_rdLoadN rfl r1 rfl UC.out rfl IC.size (by with_reducible assumption) rfl rfl rfl ?_; refine hx_plain rfl ?_; (refine h_buildSlice rfl rfl rfl UC.out IC.size IC.zero rfl rfl (by intro v hv; simp at hv; first | (subst hv; rfl) | (rcases hv with rfl | rfl <;> rfl) | (rcases hv with rfl | rfl | rfl <;> rfl)) (by omega) rfl rfl (fun _ => ?_)); refine hx_plain rfl ?_)
            refine h_appendRow [p] rfl rfl rfl (.tail .head) rfl rfl UC.out IC.out rfl .head rfl rfl (one_row pairE _) (by unfold maxLen; omega) (by omega) rfl rfl (fun g' cap' => ?_)
            (refine hx_plain rfl ?_; refine h_assign rfl rfl rfl rfl ?_; refine hx_nil ?_; refine hq_norm_block ?_; refine hq_then ?_; refine hc_lex ?_; refine hx_plain rfl ?_; refine h_move rfl rfl rfl rfl ?_; refine hx_plain rfl ?_; refine h_arithI rfl rfl rfl rfl (by omega) rfl rfl ?_; refine hx_plain rfl ?_; refine h_assign rfl rfl rfl rfl ?_; refine hx_nil ?_)
            refine hq_round (i + 1, .slice (some ⟨g', 0, none⟩) (l ++ [p]).length cap') (by show lim ps - (i + 1) < lim ps - i; omega) (by show i + 1 ≤ lim ps; omega) (.cons rfl (.cons rfl (.cons rfl .nil))) (fun _ h => ?_)
            show St w nowhere [RowV pairE 28 _ (lastR ps (i + 1))] _
            rw [hsucc, lastS, if_neg (by rw [hh]; exact Bool.false_ne_true)]
            exact (St.rowV_mk (xs := l ++ [p]) h).sub (.cons .head .nil)
    · have he : i = lim ps := by omega
      by_cases hlt2 : i < ps.length
      · (refine hc_seq ?_; refine hc_seq ?_; refine hc_lex ?_; refine hx_plain rfl ?_; refine h_move rfl rfl rfl rfl ?_; refine hx_plain rfl ?_; refine h_move rfl rfl rfl rfl ?_; refine hx_plain rfl ?_; refine h_len_slice rfl rfl rfl UC.out rfl rfl rfl ?_; refine hx_plain rfl ?_; refine h_cmp rfl rfl rfl rfl rfl rfl ?_; refine hx_plain rfl ?_; refine h_move rfl rfl rfl rfl ?_; refine hx_gT rfl rfl rfl (by omega) ?_; refine hx_yes rfl rfl rfl ?_; refine h_move rfl rfl rfl rfl ?_; refine hx_yes rfl rfl rfl ?_; refine h_cmp rfl rfl rfl rfl rfl rfl ?_; refine hx_plain rfl ?_; refine h_pickT rfl rfl rfl rfl rfl ?_; refine hx_nil ?_; refine hq_then ?_; refine hc_condDF rfl (by omega) ?_; refine hc_exit ?_; refine hq_exit_then ?_; refine hq_exit_then ?_)
        refine hq_cut v trivial (.cons rfl .nil) (fun _ h => by rw [← he]; exact h)
      · (refine hc_seq ?_; refine hc_seq ?_; refine hc_lex ?_; refine hx_plain rfl ?_; refine h_move rfl rfl rfl rfl ?_; refine hx_plain rfl ?_; refine h_move rfl rfl rfl rfl ?_; refine hx_plain rfl ?_; refine h_len_slice rfl rfl rfl UC.out rfl rfl rfl ?_; refine hx_plain rfl ?_; refine h_cmp rfl rfl rfl rfl rfl rfl ?_; refine hx_plain rfl ?_; refine h_move rfl rfl rfl rfl ?_; refine hx_gF rfl rfl rfl (by omega) ?_; refine hx_skip rfl rfl rfl rfl rfl rfl ?_; refine hx_skip rfl rfl rfl rfl rfl rfl ?_; refine hx_plain rfl ?_; refine h_pickF rfl rfl rfl rfl rfl ?_; refine hx_nil ?_; refine hq_then ?_; refine hc_condF rfl ?_; refine hc_exit ?_; refine hq_exit_then ?_; refine hq_exit_then ?_)
        refine hq_cut v trivial (.cons rfl .nil) (fun _ h => by rw [← he]; exact h)
  · rintro v _
    (refine hq_exit_block ?_; refine hq_then ?_; refine hc_seq ?_; refine hc_lex ?_; refine hx_plain rfl ?_; refine h_move rfl rfl rfl rfl ?_; refine hx_plain rfl ?_; refine h_assign rfl rfl rfl rfl ?_; refine hx_nil ?_; refine hq_then ?_; refine hc_ret ?_)
    refine hq_ret1 (.inr rfl) rfl rfl rfl (fun _ h => h)
end Go.Proofs.Ytggohplddejniaa
