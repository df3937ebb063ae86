import Derived.Test.YtbfmmgbfliebhaaN4
namespace Go.Proofs.Ytbfmmgbfliebhaa
open Go Go.Proofs
set_option maxRecDepth 4000

def xorV (a v : Int) : Int := bits .xor .u8 a (IntKind.u8.wrap v)
def flipD (d : List Int) (at_ v : Int) : List Int := d.set at_.toNat (xorV (d[at_.toNat]?.getD 0) v)
def flipE (d : List Int) (at_ v : Int) : Int := if at_ < 0 ∨ (d.length : Int) ≤ at_ then 202 else if v < 1 ∨ 255 < v then 203 else 0
def NS.flipE (s : NS) (no at_ v : Int) : Int := match s.find no with
  | none => 201
  | some f => Ytbfmmgbfliebhaa.flipE f.data at_ v
def NS.flip (s : NS) (no at_ v : Int) : NS := match s.find no with
  | none => s
  | some f => if Ytbfmmgbfliebhaa.flipE f.data at_ v = 0 then s.upd no (flipD f.data at_ v) else s
theorem flipE_at {d : List Int} {at_ v : Int} (h : at_ < 0 ∨ (d.length : Int) ≤ at_) : flipE d at_ v = 202 := if_pos h
theorem flipE_v {d : List Int} {at_ v : Int} (h : ¬ (at_ < 0 ∨ (d.length : Int) ≤ at_)) (h2 : v < 1 ∨ 255 < v) : flipE d at_ v = 203 := by unfold flipE; rw [if_neg h, if_pos h2]
theorem flipE_ok {d : List Int} {at_ v : Int} (h : ¬ (at_ < 0 ∨ (d.length : Int) ≤ at_)) (h2 : ¬ (v < 1 ∨ 255 < v)) : flipE d at_ v = 0 := by unfold flipE; rw [if_neg h, if_neg h2]
theorem set_eraseIdx {α : Type} : ∀ (l : List α) (k : Nat) (a : α), (l.set k a).eraseIdx k = l.eraseIdx k
  | [], _, _ => rfl
  | _ :: _, 0, _ => rfl
  | b :: l, k + 1, a => by rw [List.set_cons_succ, List.eraseIdx_cons_succ, List.eraseIdx_cons_succ, set_eraseIdx l k a]
theorem net_put {ks : List QF} {k p g : Nat} {given : Int} {q q' : QF} (hk : ks[k]? = some q) (he : q'.ent = q.ent) {w w0 : World} {F0 : Nat → Prop} {R : List Asn} (h : St w0 F0 (QF.row q' :: netR (ks.eraseIdx k) :: netB p g given :: netM g ks :: R) w) :
    St w0 F0 (netB p g given :: netM g (ks.set k q') :: netR (ks.set k q') :: R) w := by
  have hl := (List.getElem?_eq_some_iff.1 hk).1
  have hk2 : (ks.set k q')[k]? = some q' := by rw [List.getElem?_set, if_pos rfl, if_pos hl]
  have e1 : (ks.set k q').map QF.ent = ks.map QF.ent := by
    rw [List.map_set, he]
    apply List.ext_getElem?
    intro j
    rw [List.getElem?_set]
    split
    · rename_i e
      subst e
      rw [if_pos (by rw [List.length_map]; exact hl), List.getElem?_map, hk]
      rfl
    · rfl
  have e2 : (ks.set k q').eraseIdx k = ks.eraseIdx k := set_eraseIdx _ _ _
  have h1 : St w0 F0 (QF.row q' :: All (((ks.set k q').eraseIdx k).map QF.row) :: netB p g given :: netM g ks :: R) w := by rw [e2]; exact h
  have h2 := shl_perm (M' := (ks.set k q').map QF.row) (((shl_erase hk2).map QF.row).symm) (shl_mk h1)
  unfold netM
  rw [e1]
  exact h2.pulls (.cons (.tail .head) (.cons (.tail .head) (.cons .head .nil)))
set_option maxHeartbeats 2000000 in
theorem flip_spec {p : Nat} {s : NS} (no at_ v : Int) (hok : s.Ok) :
    Spec Try.prog 30 [.pointer (some ⟨p, 0, none⟩), .int .i64 no, .int .i64 at_, .int .i64 v] [NetO p s] (fun u M => u = .int .i64 (s.flipE no at_ v) ∧ M = [NetO p (s.flip no at_ v)]) := by
  refine spec_of Try.func30 rfl rfl (Nat.le_of_ble_eq_true rfl) (fun w F => ?_)
  refine hc_openP .head NetO_open ?_
  rintro ⟨g, ks⟩ hl
  dsimp only at hl ⊢
  unfold NS.flipE NS.flip
  rcases net_find hl hok no with ⟨hf, hno, hm⟩ | ⟨k, q, hk, hno, hf, hsk, hm⟩
  · rw [hf]
    (refine hc_seq ?_; refine hc_lex ?_; refine hx_plain rfl ?_; refine h_assign rfl rfl rfl rfl ?_; refine hx_nil ?_; refine hq_then ?_; refine hc_seq ?_; refine hc_lex ?_; refine hx_plain rfl ?_; refine h_move rfl rfl rfl rfl ?_; refine hx_plain rfl ?_; refine h_move rfl rfl rfl rfl ?_; refine hx_plain rfl ?_)
    refine h_call rfl rfl rfl rfl rfl rfl rfl rfl EC.out (.cons .head (.cons .head .nil)) (find_spec p g s.given no ks _ 201 (.inl ⟨hm, rfl, rfl⟩)) ?_
    rintro u M ⟨rfl, rfl⟩
    (refine hx_plain rfl ?_; refine h_move rfl rfl rfl rfl ?_; refine hx_plain rfl ?_; refine h_extract rfl rfl rfl rfl rfl ?_; refine hx_plain rfl ?_; refine h_extract rfl rfl rfl rfl rfl ?_; refine hx_plain rfl ?_; (refine h_alloc rfl rfl IC.zero rfl rfl rfl (fun _ => ?_)); refine hx_plain rfl ?_; refine h_store rfl rfl rfl rfl rfl rfl IC.size .head rfl rfl (Nat.le_of_ble_eq_true rfl) (List.all_eq_true.1 rfl) ?_; refine hx_plain rfl ?_; refine h_assign rfl rfl rfl rfl ?_; refine hx_nil ?_; refine hq_then ?_; refine hc_seq ?_; refine hc_block ?_; refine hc_seq ?_; refine hc_lex ?_; refine hx_plain rfl ?_; refine h_move rfl rfl rfl rfl ?_; refine hx_plain rfl ?_; refine h_cmp rfl rfl rfl rfl rfl rfl ?_; refine hx_plain rfl ?_; refine h_assign rfl rfl rfl rfl ?_; refine hx_nil ?_; refine hq_then ?_; refine hc_condT rfl ?_; refine hc_seq ?_; refine hc_lex ?_; refine hx_plain rfl ?_; refine h_move rfl rfl rfl rfl ?_; refine hx_plain rfl ?_; refine h_assign rfl rfl rfl rfl ?_; refine hx_nil ?_; refine hq_then ?_; refine hc_ret ?_; refine hq_ret_block ?_; refine hq_ret_then ?_)
    exact hq_ret1 (.inr rfl) rfl rfl ⟨rfl, rfl⟩ (fun _ h => NetO_shut hl (h.sub (.cons (.tail .head) (.cons (.tail .head) (.cons (.tail .head) .nil)))))
  rw [hf]
  dsimp only
  obtain ⟨f, sa, sn, sc⟩ := q
  dsimp only at hno hf hsk hm ⊢
  have shut : ∀ {b : Nat} {o : Obj} {w' : World}, St w F (Blk b o :: netB p g s.given :: netM g ks :: [QF.row ⟨f, sa, sn, sc⟩, netR (ks.eraseIdx k)].append []) w' → St w F [NetO p s] w' := fun h => by
    have h1 : St w F (QF.row ⟨f, sa, sn, sc⟩ :: All ((ks.eraseIdx k).map QF.row) :: netB p g s.given :: netM g ks :: []) _ := h.sub (.cons (.tail (.tail (.tail .head))) (.cons (.tail (.tail (.tail .head))) (.cons (.tail .head) (.cons (.tail .head) .nil))))
    have h2 := shl_perm (M' := ks.map QF.row) (((shl_erase hk).map QF.row).symm) (shl_mk h1)
    exact NetO_shut hl (h2.pulls (.cons (.tail .head) (.cons (.tail .head) (.cons .head .nil))))
  refine hc_st (C' := St w F [netB p g s.given, netM g ks, QF.row ⟨f, sa, sn, sc⟩, netR (ks.eraseIdx k)]) (fun _ h => (rows_erase hk (h.pulls (.cons (.tail (.tail .head)) (.cons .head (.cons .head .nil))))).pulls (.cons (.tail (.tail .head)) (.cons (.tail (.tail .head)) (.cons .head (.cons .head .nil))))) ?_
  refine hc_know (fun _ h => St.rowV_shapeS h (.tail (.tail .head))) ?_
  rintro ⟨a', c', e⟩
  injection e with _ e2 _
  dsimp only at e2
  subst e2
  by_cases hat : at_ < 0 ∨ (f.data.length : Int) ≤ at_
  · rw [flipE_at hat, if_neg (by decide)]
    (refine hc_seq ?_; refine hc_lex ?_; refine hx_plain rfl ?_; refine h_assign rfl rfl rfl rfl ?_; refine hx_nil ?_; refine hq_then ?_; refine hc_seq ?_; refine hc_lex ?_; refine hx_plain rfl ?_; refine h_move rfl rfl rfl rfl ?_; refine hx_plain rfl ?_; refine h_move rfl rfl rfl rfl ?_; refine hx_plain rfl ?_)
    refine h_call rfl rfl rfl rfl rfl rfl rfl rfl EC.out (.cons .head (.cons .head .nil)) (find_spec p g s.given no ks (.agg #[.int .i64 f.to, .slice sa f.data.length sc]) 0 (.inr ⟨f.to, ⟨sa, f.data.length, sc⟩, hm, rfl, rfl⟩)) ?_
    rintro u M ⟨rfl, rfl⟩
    (refine hx_plain rfl ?_; refine h_move rfl rfl rfl rfl ?_; refine hx_plain rfl ?_; refine h_extract rfl rfl rfl rfl rfl ?_; refine hx_plain rfl ?_; refine h_extract rfl rfl rfl rfl rfl ?_; refine hx_plain rfl ?_; (refine h_alloc rfl rfl IC.zero rfl rfl rfl (fun _ => ?_)); refine hx_plain rfl ?_; refine h_store rfl rfl rfl rfl rfl rfl IC.size .head rfl rfl (Nat.le_of_ble_eq_true rfl) (List.all_eq_true.1 rfl) ?_; refine hx_plain rfl ?_; refine h_assign rfl rfl rfl rfl ?_; refine hx_nil ?_; refine hq_then ?_; refine hc_seq ?_; refine hc_block ?_; refine hc_seq ?_; refine hc_lex ?_; refine hx_plain rfl ?_; refine h_move rfl rfl rfl rfl ?_; refine hx_plain rfl ?_; refine h_cmp rfl rfl rfl rfl rfl rfl ?_; refine hx_plain rfl ?_; refine h_assign rfl rfl rfl rfl ?_; refine hx_nil ?_; refine hq_then ?_; refine hc_condF rfl ?_; refine hc_seq ?_; refine hc_lex ?_; refine hx_plain rfl ?_; refine h_move rfl rfl rfl rfl ?_; refine hx_plain rfl ?_; refine h_cmp rfl rfl rfl rfl rfl rfl ?_; refine hx_plain rfl ?_; refine h_move rfl rfl rfl rfl ?_; refine hx_gcaseD rfl rfl rfl (fun hc => ?_) (fun hc => ?_); refine hx_skip rfl rfl rfl rfl rfl rfl ?_; refine hx_skip rfl rfl rfl rfl rfl rfl ?_; refine hx_skip rfl rfl rfl rfl rfl rfl ?_; refine hx_skip rfl rfl rfl rfl rfl rfl ?_; refine hx_skip rfl rfl rfl rfl rfl rfl ?_; refine hx_plain rfl ?_; refine h_pickT rfl rfl rfl rfl rfl ?_; refine hx_plain rfl ?_; refine h_assign rfl rfl rfl rfl ?_; refine hx_nil ?_; refine hq_then ?_; refine hc_condT rfl ?_; refine hc_seq ?_; refine hc_lex ?_; refine hx_plain rfl ?_; refine h_assign rfl rfl rfl rfl ?_; refine hx_nil ?_; refine hq_then ?_; refine hc_ret ?_; refine hq_ret_block ?_; refine hq_ret_then ?_; rotate_left; refine hx_yes rfl rfl rfl ?_; refine h_move rfl rfl rfl rfl ?_; refine hx_yes rfl rfl rfl ?_; refine h_fieldAddr0 rfl rfl FC.out rfl rfl ?_; refine hx_yes rfl rfl rfl ?_; refine h_load rfl rfl UC.out rfl .head rfl rfl rfl ?_; refine hx_yes rfl rfl rfl ?_; refine h_len_slice rfl rfl rfl UC.out rfl rfl rfl ?_; refine hx_yes rfl rfl rfl ?_; refine h_cmp rfl rfl rfl rfl rfl rfl ?_; refine hx_plain rfl ?_; refine h_pickF rfl rfl rfl rfl rfl ?_; refine hx_plain rfl ?_; refine h_assign rfl rfl rfl rfl ?_; refine hx_nil ?_; refine hq_then ?_; refine hc_condDT rfl (by omega) ?_; refine hc_seq ?_; refine hc_lex ?_; refine hx_plain rfl ?_; refine h_assign rfl rfl rfl rfl ?_; refine hx_nil ?_; refine hq_then ?_; refine hc_ret ?_; refine hq_ret_block ?_; refine hq_ret_then ?_; rotate_left)
    all_goals first
      | exact hq_ret1 (.inr rfl) rfl rfl ⟨rfl, rfl⟩ (fun _ h => shut h)
      | (exfalso; dsimp only at *; rcases hat with h | h <;> omega)
  by_cases hv : v < 1 ∨ 255 < v
  · rw [flipE_v hat hv, if_neg (by decide)]
    (refine hc_seq ?_; refine hc_lex ?_; refine hx_plain rfl ?_; refine h_assign rfl rfl rfl rfl ?_; refine hx_nil ?_; refine hq_then ?_; refine hc_seq ?_; refine hc_lex ?_; refine hx_plain rfl ?_; refine h_move rfl rfl rfl rfl ?_; refine hx_plain rfl ?_; refine h_move rfl rfl rfl rfl ?_; refine hx_plain rfl ?_)
    refine h_call rfl rfl rfl rfl rfl rfl rfl rfl EC.out (.cons .head (.cons .head .nil)) (find_spec p g s.given no ks (.agg #[.int .i64 f.to, .slice sa f.data.length sc]) 0 (.inr ⟨f.to, ⟨sa, f.data.length, sc⟩, hm, rfl, rfl⟩)) ?_
    rintro u M ⟨rfl, rfl⟩
    (refine hx_plain rfl ?_; refine h_move rfl rfl rfl rfl ?_; refine hx_plain rfl ?_; refine h_extract rfl rfl rfl rfl rfl ?_; refine hx_plain rfl ?_; refine h_extract rfl rfl rfl rfl rfl ?_; refine hx_plain rfl ?_; (refine h_alloc rfl rfl IC.zero rfl rfl rfl (fun _ => ?_)); refine hx_plain rfl ?_; refine h_store rfl rfl rfl rfl rfl rfl IC.size .head rfl rfl (Nat.le_of_ble_eq_true rfl) (List.all_eq_true.1 rfl) ?_; refine hx_plain rfl ?_; refine h_assign rfl rfl rfl rfl ?_; refine hx_nil ?_; refine hq_then ?_; refine hc_seq ?_; refine hc_block ?_; refine hc_seq ?_; refine hc_lex ?_; refine hx_plain rfl ?_; refine h_move rfl rfl rfl rfl ?_; refine hx_plain rfl ?_; refine h_cmp rfl rfl rfl rfl rfl rfl ?_; refine hx_plain rfl ?_; refine h_assign rfl rfl rfl rfl ?_; refine hx_nil ?_; refine hq_then ?_; refine hc_condF rfl ?_; refine hc_seq ?_; refine hc_lex ?_; refine hx_plain rfl ?_; refine h_move rfl rfl rfl rfl ?_; refine hx_plain rfl ?_; refine h_cmp rfl rfl rfl rfl rfl rfl ?_; refine hx_plain rfl ?_; refine h_move rfl rfl rfl rfl ?_; refine hx_gF rfl rfl rfl (by omega) ?_; refine hx_yes rfl rfl rfl ?_; refine h_move rfl rfl rfl rfl ?_; refine hx_yes rfl rfl rfl ?_; refine h_fieldAddr0 rfl rfl FC.out rfl rfl ?_; refine hx_yes rfl rfl rfl ?_; refine h_load rfl rfl UC.out rfl .head rfl rfl rfl ?_; refine hx_yes rfl rfl rfl ?_; refine h_len_slice rfl rfl rfl UC.out rfl rfl rfl ?_; refine hx_yes rfl rfl rfl ?_; refine h_cmp rfl rfl rfl rfl rfl rfl ?_; refine hx_plain rfl ?_; refine h_pickF rfl rfl rfl rfl rfl ?_; refine hx_plain rfl ?_; refine h_assign rfl rfl rfl rfl ?_; refine hx_nil ?_; refine hq_then ?_; refine hc_condDF rfl (by omega) ?_; refine hc_seq ?_; refine hc_lex ?_; refine hx_plain rfl ?_; refine h_move rfl rfl rfl rfl ?_; refine hx_plain rfl ?_; refine h_cmp rfl rfl rfl rfl rfl rfl ?_; refine hx_plain rfl ?_; refine h_move rfl rfl rfl rfl ?_; refine hx_gcaseD rfl rfl rfl (fun hc => ?_) (fun hc => ?_); refine hx_skip rfl rfl rfl rfl rfl rfl ?_; refine hx_skip rfl rfl rfl rfl rfl rfl ?_; refine hx_plain rfl ?_; refine h_pickT rfl rfl rfl rfl rfl ?_; refine hx_plain rfl ?_; refine h_assign rfl rfl rfl rfl ?_; refine hx_nil ?_; refine hq_then ?_; refine hc_condT rfl ?_; refine hc_seq ?_; refine hc_lex ?_; refine hx_plain rfl ?_; refine h_assign rfl rfl rfl rfl ?_; refine hx_nil ?_; refine hq_then ?_; refine hc_ret ?_; refine hq_ret_block ?_; refine hq_ret_then ?_; rotate_left; refine hx_yes rfl rfl rfl ?_; refine h_move rfl rfl rfl rfl ?_; refine hx_yes rfl rfl rfl ?_; refine h_cmp rfl rfl rfl rfl rfl rfl ?_; refine hx_plain rfl ?_; refine h_pickF rfl rfl rfl rfl rfl ?_; refine hx_plain rfl ?_; refine h_assign rfl rfl rfl rfl ?_; refine hx_nil ?_; refine hq_then ?_; refine hc_condDT rfl (by omega) ?_; refine hc_seq ?_; refine hc_lex ?_; refine hx_plain rfl ?_; refine h_assign rfl rfl rfl rfl ?_; refine hx_nil ?_; refine hq_then ?_; refine hc_ret ?_; refine hq_ret_block ?_; refine hq_ret_then ?_; rotate_left)
    all_goals first
      | exact hq_ret1 (.inr rfl) rfl rfl ⟨rfl, rfl⟩ (fun _ h => shut h)
      | (exfalso; dsimp only at *; rcases hv with h | h <;> omega)
  rw [flipE_ok hat hv, if_pos rfl]
  refine hc_rowV (.tail (.tail .head)) ?_ ?_
  · intro _ e
    rw [e] at hat
    exact absurd (by rw [List.length_nil]; omega) hat
  rintro gd cap e
  injection e with e1 e2 e3
  dsimp only at e1 e2 e3
  subst e1 e3
  (refine hc_seq ?_; refine hc_lex ?_; refine hx_plain rfl ?_; refine h_assign rfl rfl rfl rfl ?_; refine hx_nil ?_; refine hq_then ?_; refine hc_seq ?_; refine hc_lex ?_; refine hx_plain rfl ?_; refine h_move rfl rfl rfl rfl ?_; refine hx_plain rfl ?_; refine h_move rfl rfl rfl rfl ?_; refine hx_plain rfl ?_)
  refine h_call rfl rfl rfl rfl rfl rfl rfl rfl EC.out (.cons (.tail .head) (.cons (.tail .head) .nil)) (find_spec p g s.given no ks (.agg #[.int .i64 f.to, .slice (some ⟨gd, 0, none⟩) f.data.length sc]) 0 (.inr ⟨f.to, ⟨some ⟨gd, 0, none⟩, f.data.length, sc⟩, hm, rfl, rfl⟩)) ?_
  rintro u M ⟨rfl, rfl⟩
  obtain ⟨x0, hx0⟩ : ∃ x, f.data[at_.toNat]? = some x := ⟨_, List.getElem?_eq_getElem (by omega)⟩
  (refine hx_plain rfl ?_; refine h_move rfl rfl rfl rfl ?_; refine hx_plain rfl ?_; refine h_extract rfl rfl rfl rfl rfl ?_; refine hx_plain rfl ?_; refine h_extract rfl rfl rfl rfl rfl ?_; refine hx_plain rfl ?_; (refine h_alloc rfl rfl IC.zero rfl rfl rfl (fun _ => ?_)); refine hx_plain rfl ?_; refine h_store rfl rfl rfl rfl rfl rfl IC.size .head rfl rfl (Nat.le_of_ble_eq_true rfl) (List.all_eq_true.1 rfl) ?_; refine hx_plain rfl ?_; refine h_assign rfl rfl rfl rfl ?_; refine hx_nil ?_; refine hq_then ?_; refine hc_seq ?_; refine hc_block ?_; refine hc_seq ?_; refine hc_lex ?_; refine hx_plain rfl ?_; refine h_move rfl rfl rfl rfl ?_; refine hx_plain rfl ?_; refine h_cmp rfl rfl rfl rfl rfl rfl ?_; refine hx_plain rfl ?_; refine h_assign rfl rfl rfl rfl ?_; refine hx_nil ?_; refine hq_then ?_; refine hc_condF rfl ?_; refine hc_seq ?_; refine hc_lex ?_; refine hx_plain rfl ?_; refine h_move rfl rfl rfl rfl ?_; refine hx_plain rfl ?_; refine h_cmp rfl rfl rfl rfl rfl rfl ?_; refine hx_plain rfl ?_; refine h_move rfl rfl rfl rfl ?_; refine hx_gF rfl rfl rfl (by omega) ?_; refine hx_yes rfl rfl rfl ?_; refine h_move rfl rfl rfl rfl ?_; refine hx_yes rfl rfl rfl ?_; refine h_fieldAddr0 rfl rfl FC.out rfl rfl ?_; refine hx_yes rfl rfl rfl ?_; refine h_load rfl rfl UC.out rfl .head rfl rfl rfl ?_; refine hx_yes rfl rfl rfl ?_; refine h_len_slice rfl rfl rfl UC.out rfl rfl rfl ?_; refine hx_yes rfl rfl rfl ?_; refine h_cmp rfl rfl rfl rfl rfl rfl ?_; refine hx_plain rfl ?_; refine h_pickF rfl rfl rfl rfl rfl ?_; refine hx_plain rfl ?_; refine h_assign rfl rfl rfl rfl ?_; refine hx_nil ?_; refine hq_then ?_; refine hc_condDF rfl (by omega) ?_; refine hc_seq ?_; refine hc_lex ?_; refine hx_plain rfl ?_; refine h_move rfl rfl rfl rfl ?_; refine hx_plain rfl ?_; refine h_cmp rfl rfl rfl rfl rfl rfl ?_; refine hx_plain rfl ?_; refine h_move rfl rfl rfl rfl ?_; refine hx_gF rfl rfl rfl (by omega) ?_; refine hx_yes rfl rfl rfl ?_; refine h_move rfl rfl rfl rfl ?_; refine hx_yes rfl rfl rfl ?_; refine h_cmp rfl rfl rfl rfl rfl rfl ?_; refine hx_plain rfl ?_; refine h_pickF rfl rfl rfl rfl rfl ?_; refine hx_plain rfl ?_; refine h_assign rfl rfl rfl rfl ?_; refine hx_nil ?_; refine hq_then ?_; refine hc_condDF rfl (by omega) ?_; refine hc_skip ?_; refine hq_norm_block ?_; refine hq_then ?_; refine hc_seq ?_; refine hc_lex ?_; refine hx_plain rfl ?_; refine h_fieldAddr0 rfl rfl FC.out rfl rfl ?_; refine hx_plain rfl ?_; refine h_load rfl rfl UC.out rfl .head rfl rfl rfl ?_; refine hx_plain rfl ?_; refine h_move rfl rfl rfl rfl ?_; refine hx_plain rfl ?_; refine h_rowAddr rfl rfl rfl UC.out IC.size (by omega) (by omega) rfl rfl ?_; refine hx_plain rfl ?_; refine h_rowLoad1 rfl (.tail (.tail (.tail .head))) rfl UC.out rfl (by with_reducible assumption) rfl rfl rfl ?_; refine hx_plain rfl ?_; refine h_move rfl rfl rfl rfl ?_; refine hx_plain rfl ?_; refine h_convInt rfl rfl UC.out UC.out rfl rfl ?_; refine hx_plain rfl ?_; refine h_bits rfl rfl rfl rfl rfl rfl ?_; refine hx_plain rfl ?_; refine h_rowAddr rfl rfl rfl UC.out IC.size (by omega) (by omega) rfl rfl ?_; refine hx_plain rfl ?_)
  refine h_rowStoreN (i := at_.toNat) (z := bits .xor .u8 x0 (IntKind.u8.wrap v)) rfl rfl rfl (.tail (.tail (.tail .head))) rfl rfl rfl IC.size hx0 rfl rfl ?_
  (refine hx_nil ?_; refine hq_then ?_; refine hc_seq ?_; refine hc_lex ?_; refine hx_plain rfl ?_; refine h_assign rfl rfl rfl rfl ?_; refine hx_nil ?_; refine hq_then ?_; refine hc_ret ?_)
  refine hq_ret1 (.inr rfl) rfl rfl ⟨rfl, rfl⟩ (fun w' h => ?_)
  have h1 := (show St w F (Row byteE 5 gd sc (f.data.set at_.toNat (xorV x0 v)) :: _) w' from h).rowV_mk
  rw [List.length_set] at h1
  have hd : f.data.set at_.toNat (xorV x0 v) = flipD f.data at_ v := by unfold flipD; rw [hx0]; rfl
  rw [hd] at h1
  have h2 : St w F (QF.row ⟨⟨f.no, f.to, flipD f.data at_ v⟩, ⟨some ⟨gd, 0, none⟩, f.data.length, sc⟩⟩ :: netR (ks.eraseIdx k) :: netB p g s.given :: netM g ks :: []) w' := h1.sub (.cons .head (.cons (.tail (.tail (.tail .head))) (.cons (.tail .head) (.cons (.tail .head) .nil))))
  refine NetO_shut (ks := ks.set k ⟨⟨f.no, f.to, flipD f.data at_ v⟩, ⟨some ⟨gd, 0, none⟩, f.data.length, sc⟩⟩) ?_ (net_put (q' := ⟨⟨f.no, f.to, flipD f.data at_ v⟩, ⟨some ⟨gd, 0, none⟩, f.data.length, sc⟩⟩) hk rfl h2)
  rw [List.map_set, hl, ← hno, NS.upd_at hok hsk]
end Go.Proofs.Ytbfmmgbfliebhaa
