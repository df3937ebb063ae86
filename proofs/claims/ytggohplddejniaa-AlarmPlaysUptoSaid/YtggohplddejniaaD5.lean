import Derived.Test.YtggohplddejniaaD4
import Derived.Test.YtggohplddejniaaEngR
namespace Go.Proofs.Ytggohplddejniaa
open Go Go.Proofs
set_option maxRecDepth 4000

def firstI (l : List Itm) : Itm := match firstR l l.length with
  | some i => l.getD i zI
  | none => zI
set_option maxHeartbeats 4000000 in
theorem dnext_spec (p : Nat) (l : List Itm) (hl : l.length ≤ 4398046511104) :
    Spec Try.prog 28 [.pointer (some ⟨p, 0, none⟩)] [DocO p l] (fun v M => v = .tuple #[kv (firstI l).n (firstI l).s, .int .i64 (firstI l).at_, .bool (firstR l l.length).isSome] ∧ M = [DocO p l]) := by
  refine spec_of Try.func28 rfl rfl (Nat.le_of_ble_eq_true rfl) (fun w F => ?_)
  (refine hc_seq ?_; refine hc_lex ?_; refine hx_plain rfl ?_; (refine h_alloc rfl rfl IC.zero rfl rfl rfl (fun _ => ?_)); refine hx_plain rfl ?_; refine h_assign rfl rfl rfl rfl ?_; refine hx_plain rfl ?_; refine h_assign rfl rfl rfl rfl ?_; refine hx_nil ?_; refine hq_then ?_; refine hc_seq ?_; refine hc_lex ?_; refine hx_plain rfl ?_; refine h_move rfl rfl rfl rfl ?_; refine hx_plain rfl ?_)
  rename_i b
  refine h_call rfl rfl rfl rfl rfl rfl rfl rfl EC.out (.cons (.tail .head) .nil) (first_spec p l hl) ?_
  rintro v M ⟨rfl, rfl⟩
  cases hf : firstR l l.length with
  | none =>
    rw [show firstI l = zI by rw [firstI, hf]]
    dsimp only [ixv]
    (refine hx_plain rfl ?_; refine h_assign rfl rfl rfl rfl ?_; refine hx_nil ?_; refine hq_then ?_; refine hc_seq ?_; refine hc_seq ?_; refine hc_lex ?_; refine hx_plain rfl ?_; refine h_move rfl rfl rfl rfl ?_; refine hx_plain rfl ?_; refine h_cmp rfl rfl rfl rfl rfl rfl ?_; refine hx_nil ?_; refine hq_then ?_; refine hc_condT rfl ?_; refine hc_seq ?_; refine hc_lex ?_; refine hx_plain rfl ?_; refine h_build rfl inferInstance rfl rfl rfl rfl ?_; refine hx_plain rfl ?_; refine h_store rfl rfl rfl rfl rfl rfl IC.size (.tail .head) rfl rfl (Nat.le_of_ble_eq_true rfl) (List.all_eq_true.1 rfl) ?_; refine hx_plain rfl ?_; refine h_assign rfl rfl rfl rfl ?_; refine hx_plain rfl ?_; refine h_assign rfl rfl rfl rfl ?_; refine hx_nil ?_; refine hq_then ?_; refine hc_ret ?_; refine hq_ret_then ?_)
    refine hq_retC3 (.inr rfl) rfl rfl UC.out rfl IC.size .head rfl rfl ⟨rfl, rfl⟩ (fun _ h => h.sub (.cons (.tail .head) .nil))
  | some i =>
    have hi := firstR_lt l _ i hf
    obtain ⟨q, hq⟩ : ∃ q, l[i] = q := ⟨_, rfl⟩
    have e1 : l[((i : Nat) : Int).toNat]? = some q := by rw [← hq]; exact List.getElem?_eq_getElem hi
    rw [show firstI l = q by rw [firstI, hf]; exact getD_some e1]
    dsimp only [ixv]
    (refine hx_plain rfl ?_; refine h_assign rfl rfl rfl rfl ?_; refine hx_nil ?_; refine hq_then ?_)
    refine hc_open .head DocO_open ?_
    rintro hv
    refine hc_rowV (.tail .head) ?_ ?_
    · intro e2 e3
      subst e2 e3
      exact absurd hi (Nat.not_lt_zero _)
    · rintro g cap rfl
      (refine hc_seq ?_; refine hc_seq ?_; refine hc_lex ?_; refine hx_plain rfl ?_; refine h_move rfl rfl rfl rfl ?_; refine hx_plain rfl ?_; refine h_cmp rfl rfl rfl rfl rfl rfl ?_; refine hx_nil ?_; refine hq_then ?_; refine hc_condF rfl ?_; refine hc_skip ?_; refine hq_then ?_; refine hc_seq ?_)
      refine hc_conv (C' := St w F [Row itmE 102 g cap l, Blk p (.cells #[.slice (some ⟨g, 0, none⟩) l.length cap] 90), Any2 b 58]) (fun _ h => ?_) ?_
      · exact (Any2.mk (h.sub (.cons (.tail (.tail .head)) (.cons .head (.cons .head .nil))))).sub (.cons (.tail .head) (.cons (.tail .head) (.cons .head .nil)))
      refine hc_drawO [0, 1, 2, 3, 4, 5, 6, 7, 8, 9, 10, 11, 12, 13, 14, 15, 16, 17, 18] (fun i => Nat.beq i 16) (by kernel_rfl) (by kernel_rfl) rfl ?_
      (refine hx_plain rfl ?_; refine h_move rfl rfl rfl rfl ?_; refine hx_plain rfl ?_; refine h_nilCheck rfl rfl rfl rfl ?_; refine hx_plain rfl ?_; refine h_fieldAddr0 rfl rfl FC.out rfl rfl ?_; refine hx_plain rfl ?_; refine h_load rfl rfl UC.out rfl (.tail .head) rfl rfl rfl ?_; refine hx_plain rfl ?_; refine h_move rfl rfl rfl rfl ?_; refine hx_plain rfl ?_; refine h_rowAddr rfl rfl rfl UC.out IC.size (by omega) (by omega) rfl rfl ?_; refine hx_plain rfl ?_; refine h_fieldAddr rfl rfl FC.out rfl rfl ?_; refine hx_plain rfl ?_; refine h_rowLoadP rfl .head rfl UC.out rfl IC.size (by with_reducible assumption) (Nat.le_of_ble_eq_true rfl) rfl rfl rfl ?_; refine hx_plain rfl ?_; refine h_move rfl rfl rfl rfl ?_; refine hx_plain rfl ?_; refine h_nilCheck rfl rfl rfl rfl ?_; refine hx_plain rfl ?_; refine h_fieldAddr0 rfl rfl FC.out rfl rfl ?_; refine hx_plain rfl ?_; refine h_load rfl rfl UC.out rfl (.tail .head) rfl rfl rfl ?_; refine hx_plain rfl ?_; refine h_move rfl rfl rfl rfl ?_; refine hx_plain rfl ?_; refine h_rowAddr rfl rfl rfl UC.out IC.size (by omega) (by omega) rfl rfl ?_; refine hx_plain rfl ?_; refine h_fieldAddr rfl rfl FC.out rfl rfl ?_; refine hx_plain rfl ?_; refine h_rowLoad rfl .head rfl UC.out rfl (by with_reducible assumption) rfl rfl rfl ?_; refine hx_plain rfl ?_)
      refine h_storeAny (b := b) rfl rfl rfl rfl rfl IC.size (.tail (.tail .head)) rfl rfl ?_
      (refine hx_plain rfl ?_; refine h_assign rfl rfl rfl rfl ?_; refine hx_plain rfl ?_; refine h_assign rfl rfl rfl rfl ?_; refine hx_nil ?_; refine hq_then ?_; refine hc_ret ?_)
      refine hq_retC3 (.inr rfl) rfl rfl UC.out rfl IC.size .head rfl rfl ⟨rfl, rfl⟩ (fun _ h => DocO_mk rfl (h.sub (.cons (.tail (.tail .head)) (.cons (.tail .head) .nil))))

structure KeyP where
  n : Int
  s : ByteArray
def kpE : Elem KeyP where
  sz := 2
  pos := by decide
  enc t := [.int .i64 t.n, .string t.s]
  len _ := rfl
  one t v hv := by
    simp at hv
    rcases hv with rfl | rfl <;> rfl
def Itm.k (q : Itm) : KeyP := ⟨q.n, q.s⟩
def ddueR (now : Int) : Nat → List Itm → List KeyP × List Itm
  | 0, l => ([], l)
  | f + 1, l => match firstR l l.length with
    | none => ([], l)
    | some i => if (l.getD i zI).at_ ≤ now then ((l.getD i zI).k :: (ddueR now f (l.eraseIdx i)).1, (ddueR now f (l.eraseIdx i)).2) else ([], l)
end Go.Proofs.Ytggohplddejniaa
