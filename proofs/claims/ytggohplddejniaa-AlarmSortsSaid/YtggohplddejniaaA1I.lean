import Derived.Test.YtggohplddejniaaTab
import Derived.Test.YtggohplddejniaaA0
namespace Go.Proofs.Ytggohplddejniaa.AI
open Go Go.Proofs Go.Proofs.Ytggohplddejniaa
set_option maxRecDepth 4000
abbrev T := intT
def timE : Elem (Tim Int) where
  sz := 2
  pos := by decide
  enc t := [.int .i64 t.k, .int .i64 t.at_]
  len _ := rfl
  one t v hv := by
    simp at hv
    rcases hv with rfl | rfl <;> rfl
abbrev tv (t : Tim Int) : Value := .agg #[.int .i64 t.k, .int .i64 t.at_]

theorem ahead_spec (a b : Tim Int) : Spec0 Try.prog 38 [tv a, tv b] (.bool (ahd T a b)) := by
  refine spec_of Try.func38 rfl rfl (Nat.le_of_ble_eq_true rfl) (fun w F => ?_)
  (refine hc_seq ?_; refine hc_lex ?_; refine hx_plain rfl ?_; (refine h_box rfl rfl rfl rfl rfl rfl (fun _ => ?_)); refine hx_plain rfl ?_; (refine h_box rfl rfl rfl rfl rfl rfl (fun _ => ?_)); refine hx_plain rfl ?_; refine h_assign rfl rfl rfl rfl ?_; refine hx_nil ?_; refine hq_then ?_; refine hc_seq ?_; refine hc_lex ?_; refine hx_plain rfl ?_; refine h_fieldAddr0 rfl rfl FC.out rfl rfl ?_; refine hx_plain rfl ?_; refine h_load rfl rfl UC.out rfl (.tail .head) rfl rfl rfl ?_; refine hx_plain rfl ?_; refine h_fieldAddr0 rfl rfl FC.out rfl rfl ?_; refine hx_plain rfl ?_; refine h_load rfl rfl UC.out rfl .head rfl rfl rfl ?_; refine hx_plain rfl ?_; refine h_cmp rfl rfl rfl rfl rfl rfl ?_; refine hx_plain rfl ?_; refine h_move rfl rfl rfl rfl ?_; refine hx_gcaseD rfl rfl rfl (fun hc => ?_) (fun hc => ?_); refine hx_skip rfl rfl rfl rfl rfl rfl ?_; refine hx_skip rfl rfl rfl rfl rfl rfl ?_; refine hx_skip rfl rfl rfl rfl rfl rfl ?_; refine hx_skip rfl rfl rfl rfl rfl rfl ?_; refine hx_skip rfl rfl rfl rfl rfl rfl ?_; refine hx_skip rfl rfl rfl rfl rfl rfl ?_; refine hx_skipU rfl rfl rfl rfl rfl ?_; refine hx_skipU rfl rfl rfl rfl rfl ?_; refine hx_skipU rfl rfl rfl rfl rfl ?_; refine hx_skipU rfl rfl rfl rfl rfl ?_; refine hx_skipU rfl rfl rfl rfl rfl ?_; refine hx_skip rfl rfl rfl rfl rfl rfl ?_; refine hx_plain rfl ?_; refine h_pickT rfl rfl rfl rfl rfl ?_; refine hx_plain rfl ?_; refine h_assign rfl rfl rfl rfl ?_; refine hx_nil ?_; refine hq_then ?_; refine hc_ret ?_; rotate_left; refine hx_yes rfl rfl rfl ?_; refine h_fieldAddr0 rfl rfl FC.out rfl rfl ?_; refine hx_yes rfl rfl rfl ?_; refine h_load rfl rfl UC.out rfl (.tail .head) rfl rfl rfl ?_; refine hx_yes rfl rfl rfl ?_; refine h_fieldAddr0 rfl rfl FC.out rfl rfl ?_; refine hx_yes rfl rfl rfl ?_; refine h_load rfl rfl UC.out rfl .head rfl rfl rfl ?_; refine hx_yes rfl rfl rfl ?_; refine h_cmp rfl rfl rfl rfl rfl rfl ?_; refine hx_yes rfl rfl rfl ?_; refine h_move rfl rfl rfl rfl ?_; refine hx_gcaseD rfl rfl rfl (fun hc => ?_) (fun hc => ?_); refine hx_yes rfl rfl rfl ?_; refine h_fieldAddr0 rfl rfl FC.out rfl rfl ?_; refine hx_yes rfl rfl rfl ?_; refine h_load rfl rfl UC.out rfl (.tail .head) rfl rfl rfl ?_; refine hx_yes rfl rfl rfl ?_; refine h_fieldAddr0 rfl rfl FC.out rfl rfl ?_; refine hx_yes rfl rfl rfl ?_; refine h_load rfl rfl UC.out rfl .head rfl rfl rfl ?_; refine hx_yes rfl rfl rfl ?_; refine h_cmp rfl rfl rfl rfl rfl rfl ?_; refine hx_yes rfl rfl rfl ?_; refine h_pickT rfl rfl rfl rfl rfl ?_; refine hx_plain rfl ?_; refine h_pickF rfl rfl rfl rfl rfl ?_; refine hx_plain rfl ?_; refine h_assign rfl rfl rfl rfl ?_; refine hx_nil ?_; refine hq_then ?_; refine hc_ret ?_; rotate_left; refine hx_skip rfl rfl rfl rfl rfl rfl ?_; refine hx_skip rfl rfl rfl rfl rfl rfl ?_; refine hx_skip rfl rfl rfl rfl rfl rfl ?_; refine hx_skip rfl rfl rfl rfl rfl rfl ?_; refine hx_skip rfl rfl rfl rfl rfl rfl ?_; refine hx_yes rfl rfl rfl ?_; refine h_pickF rfl rfl rfl rfl rfl ?_; refine hx_plain rfl ?_; refine h_pickF rfl rfl rfl rfl rfl ?_; refine hx_plain rfl ?_; refine h_assign rfl rfl rfl rfl ?_; refine hx_nil ?_; refine hq_then ?_; refine hc_ret ?_; rotate_left)
  all_goals refine hq_ret1 (.inr rfl) rfl rfl ⟨?_, rfl⟩ (fun _ h => h.emp)
  · simp only [ahd, hc, decide_true, Bool.true_or]
  · rename_i h1 h2
    have e1 : decide (a.at_ < b.at_) = false := decide_eq_false h2
    have e2 : decide (a.at_ = b.at_) = true := decide_eq_true hc
    simp only [ahd, e1, e2, Bool.false_or, Bool.true_and]
    rfl
  · rename_i h1 h2
    have e1 : decide (a.at_ < b.at_) = false := decide_eq_false h2
    have e2 : decide (a.at_ = b.at_) = false := decide_eq_false hc
    simp only [ahd, e1, e2, Bool.false_or, Bool.false_and]

/-- The pieces that an alarm is made of. -/
abbrev hdr (v : Value) (gm : Nat) : Obj := .cells #[v, .map (some gm), .func (.func 38) #[] #[]] 85
abbrev alP (p g cap gm n : Nat) (xs : List (Tim Int)) (m : Pl Int) : List Asn := [Blk p (hdr (.slice (some ⟨g, 0, none⟩) n cap) gm), Row timE 81 g cap xs, MapA T.ko gm m]

/-- lay: the i-th timer, and the place of its key. -/
theorem lay_spec (p g cap gm n : Nat) (xs : List (Tim Int)) (m : Pl Int) (i : Nat) (t : Tim Int) (hl : xs.length = n) (hi : i < n) :
    Spec Try.prog 39 [.pointer (some ⟨p, 0, none⟩), .int .i64 (i : Int), tv t] (alP p g cap gm n xs m)
      (fun v M => v = .tuple #[] ∧ M = alP p g cap gm n (xs.set i t) (mset T.ko m t.k (.int .i64 (i : Int)))) := by
  refine spec_of Try.func39 rfl rfl (Nat.le_of_ble_eq_true rfl) (fun w F => ?_)
  (refine hc_seq ?_; refine hc_lex ?_; refine hx_plain rfl ?_; (refine h_box rfl rfl rfl rfl rfl rfl (fun _ => ?_)); refine hx_nil ?_; refine hq_then ?_; refine hc_seq ?_; refine hc_draw0 (by kernel_rfl) (by kernel_rfl) ?_; refine hx_plain rfl ?_; refine h_move rfl rfl rfl rfl ?_; refine hx_plain rfl ?_; refine h_nilCheck rfl rfl rfl rfl ?_; refine hx_plain rfl ?_; refine h_fieldAddr0 rfl rfl FC.out rfl rfl ?_; refine hx_plain rfl ?_; refine h_load rfl rfl UC.out rfl (.tail .head) rfl rfl rfl ?_; refine hx_plain rfl ?_; refine h_move rfl rfl rfl rfl ?_; refine hx_plain rfl ?_; refine h_load2 rfl rfl UC.out rfl IC.size .head rfl rfl rfl rfl ?_; refine hx_plain rfl ?_; refine h_rowAddr rfl rfl rfl UC.out IC.size (by omega) (by omega) rfl rfl ?_; refine hx_plain rfl ?_)
  refine h_rowStoreN t rfl rfl rfl (.tail (.tail .head)) rfl rfl rfl IC.size (List.getElem?_eq_getElem (by rw [hl]; exact hi)) rfl rfl ?_
  (refine hx_nil ?_; refine hq_then ?_; refine hc_draw0 (by kernel_rfl) (by kernel_rfl) ?_; refine hx_plain rfl ?_; refine h_move rfl rfl rfl rfl ?_; refine hx_plain rfl ?_; refine h_nilCheck rfl rfl rfl rfl ?_; refine hx_plain rfl ?_; refine h_fieldAddr0 rfl rfl FC.out rfl rfl ?_; refine hx_plain rfl ?_; refine h_load rfl rfl UC.out rfl (.tail (.tail .head)) rfl rfl rfl ?_; refine hx_plain rfl ?_; refine h_fieldAddr0 rfl rfl FC.out rfl rfl ?_; refine hx_plain rfl ?_; refine h_load rfl rfl UC.out rfl (.tail .head) rfl rfl rfl ?_; refine hx_plain rfl ?_; refine h_move rfl rfl rfl rfl ?_; refine hx_plain rfl ?_; refine h_mapUpdate rfl rfl rfl (.tail (.tail (.tail .head))) rfl rfl rfl UC.out UC.out rfl ?_; refine hx_nil ?_)
  refine hq_ret0 (.inl rfl) rfl ⟨rfl, rfl⟩ (fun _ h => ?_)
  (refine St.sub ?_ h; (with_reducible refine .cons (.tail (.tail (.tail .head))) ?_); (with_reducible refine .cons (.tail .head) ?_); (with_reducible refine .cons .head ?_); exact .nil)
end Go.Proofs.Ytggohplddejniaa.AI
