import Derived.Test.YtggohplddejniaaD1
namespace Go.Proofs.Ytggohplddejniaa
open Go Go.Proofs
set_option maxRecDepth 4000

def dset (n : Int) (s : ByteArray) (t : Int) (l : List Itm) : List Itm := match fnd n s l with
  | some i => l.set i ⟨n, s, t⟩
  | none => l ++ [⟨n, s, t⟩]
def dcancel (n : Int) (s : ByteArray) (l : List Itm) : List Itm := match fnd n s l with
  | some i => l.eraseIdx i
  | none => l
def dwhen (n : Int) (s : ByteArray) (l : List Itm) : Int := match fnd n s l with
  | some i => (l.getD i ⟨0, ByteArray.empty, 0⟩).at_
  | none => 0
theorem fnd_some {n : Int} {s : ByteArray} {l : List Itm} {i : Nat} (h : fnd n s l = some i) : ∃ q, l[i]? = some q ∧ q.n = n ∧ q.s = s ∧ i < l.length := by
  obtain ⟨h1, h2, _⟩ := List.findIdx?_eq_some_iff_getElem.1 h
  simp only [Itm.is, Bool.and_eq_true, decide_eq_true_eq] at h2
  exact ⟨l[i], List.getElem?_eq_getElem h1, h2.1, h2.2, h1⟩

set_option maxHeartbeats 4000000 in
theorem dset_spec (p : Nat) (l : List Itm) (n : Int) (s : ByteArray) (t : Int) (hl : l.length < 4398046511104) :
    Spec Try.prog 22 [.pointer (some ⟨p, 0, none⟩), kv n s, .int .i64 t] [DocO p l] (fun v M => v = .tuple #[] ∧ M = [DocO p (dset n s t l)]) := by
  refine spec_of Try.func22 rfl rfl (Nat.le_of_ble_eq_true rfl) (fun w F => ?_)
  (refine hc_seq ?_; refine hc_lex ?_; refine hx_plain rfl ?_; (refine h_box rfl rfl rfl rfl rfl rfl (fun _ => ?_)); refine hx_nil ?_; refine hq_then ?_; refine hc_seq ?_; refine hc_lex ?_; refine hx_plain rfl ?_; refine h_move rfl rfl rfl rfl ?_; refine hx_plain rfl ?_; refine h_load2 rfl rfl UC.out rfl IC.size .head rfl rfl rfl rfl ?_; refine hx_plain rfl ?_)
  refine h_call rfl rfl rfl rfl rfl rfl rfl rfl EC.out (.cons (.tail .head) .nil) (find_spec p l n s (Nat.le_of_lt hl)) ?_
  rintro v M ⟨rfl, rfl⟩
  cases hf : fnd n s l with
  | some i =>
    obtain ⟨q, hq, rfl, rfl, hi⟩ := fnd_some hf
    have e1 : l[((i : Nat) : Int).toNat]? = some q := hq
    rw [show dset q.n q.s t l = l.set i ⟨q.n, q.s, t⟩ by rw [dset, hf]]
    dsimp only [ixv]
    (refine hx_plain rfl ?_; refine h_assign rfl rfl rfl rfl ?_; refine hx_nil ?_; refine hq_then ?_)
    refine hc_open .head DocO_open ?_
    rintro hv
    refine hc_rowV (.tail .head) ?_ ?_
    · intro e2 e3
      subst e2 e3
      exact absurd hi (Nat.not_lt_zero _)
    · rintro g cap rfl
      (refine hc_seq ?_; refine hc_seq ?_; refine hc_lex ?_; refine hx_plain rfl ?_; refine h_move rfl rfl rfl rfl ?_; refine hx_plain rfl ?_; refine h_cmp rfl rfl rfl rfl rfl rfl ?_; refine hx_nil ?_; refine hq_then ?_; refine hc_condT rfl ?_; refine hc_seq ?_; refine hc_lex ?_; refine hx_plain rfl ?_; refine h_move rfl rfl rfl rfl ?_; refine hx_plain rfl ?_; refine h_nilCheck rfl rfl rfl rfl ?_; refine hx_plain rfl ?_; refine h_fieldAddr0 rfl rfl FC.out rfl rfl ?_; refine hx_plain rfl ?_; refine h_load rfl rfl UC.out rfl (.tail .head) rfl rfl rfl ?_; refine hx_plain rfl ?_; refine h_move rfl rfl rfl rfl ?_; refine hx_plain rfl ?_; refine h_move rfl rfl rfl rfl ?_; refine hx_plain rfl ?_; refine h_rowAddr rfl rfl rfl UC.out IC.size (by omega) (by omega) rfl rfl ?_; refine hx_plain rfl ?_; refine h_fieldAddr rfl rfl FC.out rfl rfl ?_; refine hx_plain rfl ?_)
      refine h_rowStore (i := i) (off := 2) (q := q) (z := ⟨q.n, q.s, t⟩) rfl rfl rfl .head rfl rfl rfl IC.size e1 rfl rfl (by decide) rfl ?_
      (refine hx_nil ?_; refine hq_then ?_; refine hc_ret ?_; refine hq_ret_then ?_)
      refine hq_ret0 (.inr rfl) rfl ⟨rfl, rfl⟩ (fun _ h => DocO_mk (by rw [List.length_set]) (h.sub (.cons (.tail .head) (.cons .head .nil))))
  | none =>
    rw [show dset n s t l = l ++ [⟨n, s, t⟩] by rw [dset, hf]]
    dsimp only [ixv]
    (refine hx_plain rfl ?_; refine h_assign rfl rfl rfl rfl ?_; refine hx_nil ?_; refine hq_then ?_)
    refine hc_open .head DocO_open ?_
    rintro hv
    refine hc_rowV (.tail .head) ?_ ?_
    · intro e2 e3
      subst e2 e3
      (refine hc_seq ?_; refine hc_seq ?_; refine hc_lex ?_; refine hx_plain rfl ?_; refine h_move rfl rfl rfl rfl ?_; refine hx_plain rfl ?_; refine h_cmp rfl rfl rfl rfl rfl rfl ?_; refine hx_nil ?_; refine hq_then ?_; refine hc_condF rfl ?_; refine hc_skip ?_; refine hq_then ?_; refine hc_drawW (by kernel_rfl) (by kernel_rfl) ?_; refine hx_plain rfl ?_; refine h_move rfl rfl rfl rfl ?_; refine hx_plain rfl ?_; refine h_move rfl rfl rfl rfl ?_; refine hx_plain rfl ?_; refine h_nilCheck rfl rfl rfl rfl ?_; refine hx_plain rfl ?_; refine h_fieldAddr0 rfl rfl FC.out rfl rfl ?_; refine hx_plain rfl ?_; refine h_load rfl rfl UC.out rfl .head rfl rfl rfl ?_; refine hx_plain rfl ?_; refine h_load2 rfl rfl UC.out rfl IC.size (.tail .head) rfl rfl rfl rfl ?_; refine hx_plain rfl ?_; refine h_move rfl rfl rfl rfl ?_; refine hx_plain rfl ?_; refine h_build rfl inferInstance rfl rfl rfl rfl ?_; refine hx_plain rfl ?_; (refine h_buildSliceW rfl rfl UC.out IC.size IC.zero rfl rfl (by intro v hv; simp at hv; first | (subst hv; rfl) | (rcases hv with rfl | rfl <;> rfl) | (rcases hv with rfl | rfl | rfl <;> rfl)) (by omega) rfl rfl (fun _ => ?_)); refine hx_plain rfl ?_)
      refine h_appendNil itmE 102 [⟨n, s, t⟩] rfl rfl rfl rfl rfl UC.out IC.out rfl .head rfl rfl (one_row itmE _) (by unfold maxLen; omega) (by omega) rfl rfl (fun g' cap' => ?_)
      (refine hx_plain rfl ?_; refine h_nilCheck rfl rfl rfl rfl ?_; refine hx_plain rfl ?_; refine h_fieldAddr0 rfl rfl FC.out rfl rfl ?_; refine hx_plain rfl ?_; refine h_store rfl rfl rfl rfl rfl rfl IC.size (.tail (.tail .head)) rfl rfl (Nat.le_of_ble_eq_true rfl) (List.all_eq_true.1 rfl) ?_; refine hx_nil ?_)
      refine hq_ret0 (.inl rfl) rfl ⟨rfl, rfl⟩ (fun _ h => DocO_mk rfl (h.sub (.cons .head (.cons .head .nil))))
    · rintro g cap rfl
      (refine hc_seq ?_; refine hc_seq ?_; refine hc_lex ?_; refine hx_plain rfl ?_; refine h_move rfl rfl rfl rfl ?_; refine hx_plain rfl ?_; refine h_cmp rfl rfl rfl rfl rfl rfl ?_; refine hx_nil ?_; refine hq_then ?_; refine hc_condF rfl ?_; refine hc_skip ?_; refine hq_then ?_; refine hc_drawW (by kernel_rfl) (by kernel_rfl) ?_; refine hx_plain rfl ?_; refine h_move rfl rfl rfl rfl ?_; refine hx_plain rfl ?_; refine h_move rfl rfl rfl rfl ?_; refine hx_plain rfl ?_; refine h_nilCheck rfl rfl rfl rfl ?_; refine hx_plain rfl ?_; refine h_fieldAddr0 rfl rfl FC.out rfl rfl ?_; refine hx_plain rfl ?_; refine h_load rfl rfl UC.out rfl (.tail .head) rfl rfl rfl ?_; refine hx_plain rfl ?_; refine h_load2 rfl rfl UC.out rfl IC.size (.tail (.tail .head)) rfl rfl rfl rfl ?_; refine hx_plain rfl ?_; refine h_move rfl rfl rfl rfl ?_; refine hx_plain rfl ?_; refine h_build rfl inferInstance rfl rfl rfl rfl ?_; refine hx_plain rfl ?_; (refine h_buildSliceW rfl rfl UC.out IC.size IC.zero rfl rfl (by intro v hv; simp at hv; first | (subst hv; rfl) | (rcases hv with rfl | rfl <;> rfl) | (rcases hv with rfl | rfl | rfl <;> rfl)) (by omega) rfl rfl (fun _ => ?_)); refine hx_plain rfl ?_)
      refine h_appendRow [⟨n, s, t⟩] rfl rfl rfl (.tail .head) rfl rfl UC.out IC.out rfl .head rfl rfl (one_row itmE _) (by unfold maxLen; omega) (by omega) rfl rfl (fun g' cap' => ?_)
      (refine hx_plain rfl ?_; refine h_nilCheck rfl rfl rfl rfl ?_; refine hx_plain rfl ?_; refine h_fieldAddr0 rfl rfl FC.out rfl rfl ?_; refine hx_plain rfl ?_; refine h_store rfl rfl rfl rfl rfl rfl IC.size (.tail (.tail .head)) rfl rfl (Nat.le_of_ble_eq_true rfl) (List.all_eq_true.1 rfl) ?_; refine hx_nil ?_)
      refine hq_ret0 (.inl rfl) rfl ⟨rfl, rfl⟩ (fun _ h => DocO_mk rfl (h.sub (.cons .head (.cons .head .nil))))

set_option maxHeartbeats 4000000 in
theorem dcancel_spec (p : Nat) (l : List Itm) (n : Int) (s : ByteArray) (hl : l.length ≤ 4398046511104) :
    Spec Try.prog 24 [.pointer (some ⟨p, 0, none⟩), kv n s] [DocO p l] (fun v M => v = .bool (fnd n s l).isSome ∧ M = [DocO p (dcancel n s l)]) := by
  refine spec_of Try.func24 rfl rfl (Nat.le_of_ble_eq_true rfl) (fun w F => ?_)
  (refine hc_seq ?_; refine hc_lex ?_; refine hx_plain rfl ?_; (refine h_box rfl rfl rfl rfl rfl rfl (fun _ => ?_)); refine hx_plain rfl ?_; refine h_assign rfl rfl rfl rfl ?_; refine hx_nil ?_; refine hq_then ?_; refine hc_seq ?_; refine hc_lex ?_; refine hx_plain rfl ?_; refine h_move rfl rfl rfl rfl ?_; refine hx_plain rfl ?_; refine h_load2 rfl rfl UC.out rfl IC.size .head rfl rfl rfl rfl ?_; refine hx_plain rfl ?_)
  refine h_call rfl rfl rfl rfl rfl rfl rfl rfl EC.out (.cons (.tail .head) .nil) (find_spec p l n s hl) ?_
  rintro v M ⟨rfl, rfl⟩
  cases hf : fnd n s l with
  | some i =>
    obtain ⟨q, hq, rfl, rfl, hi⟩ := fnd_some hf
    rw [show dcancel q.n q.s l = l.eraseIdx i by rw [dcancel, hf]]
    dsimp only [ixv]
    (refine hx_plain rfl ?_; refine h_assign rfl rfl rfl rfl ?_; refine hx_nil ?_; refine hq_then ?_; refine hc_seq ?_; refine hc_seq ?_; refine hc_lex ?_; refine hx_plain rfl ?_; refine h_move rfl rfl rfl rfl ?_; refine hx_plain rfl ?_; refine h_cmp rfl rfl rfl rfl rfl rfl ?_; refine hx_nil ?_; refine hq_then ?_; refine hc_condT rfl ?_; refine hc_lex ?_; refine hx_plain rfl ?_; refine h_move rfl rfl rfl rfl ?_; refine hx_plain rfl ?_; refine h_move rfl rfl rfl rfl ?_; refine hx_plain rfl ?_)
    refine h_call rfl rfl rfl rfl rfl rfl rfl rfl EC.out (.cons .head .nil) (without_spec p l i hi hl) ?_
    rintro v M ⟨rfl, rfl⟩
    (refine hx_nil ?_; refine hq_then ?_; refine hc_seq ?_; refine hc_lex ?_; refine hx_plain rfl ?_; refine h_move rfl rfl rfl rfl ?_; refine hx_plain rfl ?_; refine h_cmp rfl rfl rfl rfl rfl rfl ?_; refine hx_plain rfl ?_; refine h_assign rfl rfl rfl rfl ?_; refine hx_nil ?_; refine hq_then ?_; refine hc_ret ?_)
    refine hq_ret1 (.inr rfl) rfl rfl ⟨by rw [decide_eq_true (by omega)]; rfl, rfl⟩ (fun _ h => h.sub (.cons .head .nil))
  | none =>
    rw [show dcancel n s l = l by rw [dcancel, hf]]
    dsimp only [ixv]
    (refine hx_plain rfl ?_; refine h_assign rfl rfl rfl rfl ?_; refine hx_nil ?_; refine hq_then ?_; refine hc_seq ?_; refine hc_seq ?_; refine hc_lex ?_; refine hx_plain rfl ?_; refine h_move rfl rfl rfl rfl ?_; refine hx_plain rfl ?_; refine h_cmp rfl rfl rfl rfl rfl rfl ?_; refine hx_nil ?_; refine hq_then ?_; refine hc_condF rfl ?_; refine hc_skip ?_; refine hq_then ?_; refine hc_seq ?_; refine hc_lex ?_; refine hx_plain rfl ?_; refine h_move rfl rfl rfl rfl ?_; refine hx_plain rfl ?_; refine h_cmp rfl rfl rfl rfl rfl rfl ?_; refine hx_plain rfl ?_; refine h_assign rfl rfl rfl rfl ?_; refine hx_nil ?_; refine hq_then ?_; refine hc_ret ?_)
    refine hq_ret1 (.inr rfl) rfl rfl ⟨rfl, rfl⟩ (fun _ h => h.sub (.cons .head .nil))

set_option maxHeartbeats 4000000 in
theorem dat_spec (p : Nat) (l : List Itm) (n : Int) (s : ByteArray) (hl : l.length ≤ 4398046511104) :
    Spec Try.prog 26 [.pointer (some ⟨p, 0, none⟩), kv n s] [DocO p l] (fun v M => v = .tuple #[.int .i64 (dwhen n s l), .bool (fnd n s l).isSome] ∧ M = [DocO p l]) := by
  refine spec_of Try.func26 rfl rfl (Nat.le_of_ble_eq_true rfl) (fun w F => ?_)
  (refine hc_seq ?_; refine hc_lex ?_; refine hx_plain rfl ?_; (refine h_box rfl rfl rfl rfl rfl rfl (fun _ => ?_)); refine hx_plain rfl ?_; refine h_assign rfl rfl rfl rfl ?_; refine hx_plain rfl ?_; refine h_assign rfl rfl rfl rfl ?_; refine hx_nil ?_; refine hq_then ?_; refine hc_seq ?_; refine hc_lex ?_; refine hx_plain rfl ?_; refine h_move rfl rfl rfl rfl ?_; refine hx_plain rfl ?_; refine h_load2 rfl rfl UC.out rfl IC.size .head rfl rfl rfl rfl ?_; refine hx_plain rfl ?_)
  refine h_call rfl rfl rfl rfl rfl rfl rfl rfl EC.out (.cons (.tail .head) .nil) (find_spec p l n s hl) ?_
  rintro v M ⟨rfl, rfl⟩
  cases hf : fnd n s l with
  | some i =>
    obtain ⟨q, hq, rfl, rfl, hi⟩ := fnd_some hf
    have e1 : l[((i : Nat) : Int).toNat]? = some q := hq
    rw [show dwhen q.n q.s l = q.at_ by rw [dwhen, hf]; simp only [List.getD_eq_getElem?_getD, hq, Option.getD_some]]
    dsimp only [ixv]
    (refine hx_plain rfl ?_; refine h_assign rfl rfl rfl rfl ?_; refine hx_nil ?_; refine hq_then ?_)
    refine hc_open .head DocO_open ?_
    rintro hv
    refine hc_rowV (.tail .head) ?_ ?_
    · intro e2 e3
      subst e2 e3
      exact absurd hi (Nat.not_lt_zero _)
    · rintro g cap rfl
      (refine hc_seq ?_; refine hc_seq ?_; refine hc_lex ?_; refine hx_plain rfl ?_; refine h_move rfl rfl rfl rfl ?_; refine hx_plain rfl ?_; refine h_cmp rfl rfl rfl rfl rfl rfl ?_; refine hx_nil ?_; refine hq_then ?_; refine hc_condF rfl ?_; refine hc_skip ?_; refine hq_then ?_; refine hc_seq ?_; refine hc_lex ?_; refine hx_plain rfl ?_; refine h_move rfl rfl rfl rfl ?_; refine hx_plain rfl ?_; refine h_nilCheck rfl rfl rfl rfl ?_; refine hx_plain rfl ?_; refine h_fieldAddr0 rfl rfl FC.out rfl rfl ?_; refine hx_plain rfl ?_; refine h_load rfl rfl UC.out rfl (.tail .head) rfl rfl rfl ?_; refine hx_plain rfl ?_; refine h_move rfl rfl rfl rfl ?_; refine hx_plain rfl ?_; refine h_rowAddr rfl rfl rfl UC.out IC.size (by omega) (by omega) rfl rfl ?_; refine hx_plain rfl ?_; refine h_fieldAddr rfl rfl FC.out rfl rfl ?_; refine hx_plain rfl ?_; refine h_rowLoad rfl .head rfl UC.out rfl (by with_reducible assumption) rfl rfl rfl ?_; refine hx_plain rfl ?_; refine h_assign rfl rfl rfl rfl ?_; refine hx_plain rfl ?_; refine h_assign rfl rfl rfl rfl ?_; refine hx_nil ?_; refine hq_then ?_; refine hc_ret ?_)
      refine hq_ret2 (.inr rfl) rfl rfl rfl ⟨rfl, rfl⟩ (fun _ h => DocO_mk rfl (h.sub (.cons (.tail .head) (.cons .head .nil))))
  | none =>
    rw [show dwhen n s l = 0 by rw [dwhen, hf]]
    dsimp only [ixv]
    (refine hx_plain rfl ?_; refine h_assign rfl rfl rfl rfl ?_; refine hx_nil ?_; refine hq_then ?_; refine hc_seq ?_; refine hc_seq ?_; refine hc_lex ?_; refine hx_plain rfl ?_; refine h_move rfl rfl rfl rfl ?_; refine hx_plain rfl ?_; refine h_cmp rfl rfl rfl rfl rfl rfl ?_; refine hx_nil ?_; refine hq_then ?_; refine hc_condT rfl ?_; refine hc_seq ?_; refine hc_lex ?_; refine hx_plain rfl ?_; refine h_assign rfl rfl rfl rfl ?_; refine hx_plain rfl ?_; refine h_assign rfl rfl rfl rfl ?_; refine hx_nil ?_; refine hq_then ?_; refine hc_ret ?_; refine hq_ret_then ?_)
    refine hq_ret2 (.inr rfl) rfl rfl rfl ⟨rfl, rfl⟩ (fun _ h => h.sub (.cons .head .nil))
end Go.Proofs.Ytggohplddejniaa
