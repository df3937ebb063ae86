import Derived.Test.YtggohplddejniaaA2B
namespace Go.Proofs.Ytggohplddejniaa.AB
open Go Go.Proofs Go.Proofs.Ytggohplddejniaa
set_option maxRecDepth 4000

def AlO (p : Nat) (a : AS Int) : Asn := Ex fun x : Value × Nat => All [Blk p (hdr x.1 x.2), RowV timE 115 x.1 a.xs, MapA T.ko x.2 a.m]
theorem AlO_open {p : Nat} {a : AS Int} (w w0 : World) (F0 : Nat → Prop) (R : List Asn) (h : St w0 F0 (AlO p a :: R) w) : ∃ x : Value × Nat, St w0 F0 ([Blk p (hdr x.1 x.2), RowV timE 115 x.1 a.xs, MapA T.ko x.2 a.m] ++ R) w := by
  obtain ⟨x, hx⟩ := St.ex.1 h
  exact ⟨x, St.all.1 hx⟩
theorem AlO_shut {p : Nat} {a : AS Int} {v : Value} {gm : Nat} {w w0 : World} {F0 : Nat → Prop} {R : List Asn} (h : St w0 F0 (Blk p (hdr v gm) :: RowV timE 115 v a.xs :: MapA T.ko gm a.m :: R) w) : St w0 F0 (AlO p a :: R) w :=
  St.ex.2 ⟨(v, gm), St.all.2 h⟩
/-- .. of an array. -/
theorem AlO_mk {p g cap gm n : Nat} {xs : List (Tim Int)} {m : Pl Int} {w w0 : World} {F0 : Nat → Prop} {R : List Asn} (hn : xs.length = n) (h : St w0 F0 (alP p g cap gm n xs m ++ R) w) : St w0 F0 (AlO p ⟨xs, m⟩ :: R) w := by
  subst hn
  refine AlO_shut (v := .slice (some ⟨g, 0, none⟩) xs.length cap) (gm := gm) (a := ⟨xs, m⟩) ?_
  refine St.perm (List.Perm.swap _ _ _) ?_
  refine St.rowV_mk ?_
  exact St.perm (List.Perm.swap _ _ _) h

theorem new_spec : Spec Try.prog 49 [] [] (fun v M => ∃ p, v = .pointer (some ⟨p, 0, none⟩) ∧ M = [AlO p ⟨[], []⟩]) := by
  refine spec_of Try.func49 rfl rfl (Nat.le_of_ble_eq_true rfl) (fun w F => ?_)
  refine hc_seq ?_
  (refine hc_lex ?_; refine hx_plain rfl ?_; refine h_assign rfl rfl rfl rfl ?_; refine hx_nil ?_; refine hq_then ?_; refine hc_seq ?_; refine hc_lex ?_; refine hx_plain rfl ?_)
  refine h_makeMap (KO := T.ko) rfl rfl rfl rfl (fun gm => ?_)
  (refine hx_plain rfl ?_; refine h_build rfl inferInstance rfl rfl rfl rfl ?_; refine hx_plain rfl ?_; (refine h_box rfl rfl rfl rfl rfl rfl (fun _ => ?_)); refine hx_plain rfl ?_; refine h_assign rfl rfl rfl rfl ?_; refine hx_nil ?_; refine hq_then ?_; refine hc_ret ?_)
  rename_i p
  refine hq_ret1 (.inr rfl) rfl rfl ⟨p, rfl, rfl⟩ (fun _ h => ?_)
  refine AlO_shut (v := .slice none 0 0) (gm := gm) (a := ⟨[], []⟩) ?_
  refine St.perm (List.Perm.swap _ _ _) ?_
  refine St.rowV_nil ?_
  (refine St.sub ?_ h; (with_reducible refine .cons .head ?_); (with_reducible refine .cons .head ?_); exact .nil)

theorem len_spec (p : Nat) (a : AS Int) : Spec Try.prog 53 [.pointer (some ⟨p, 0, none⟩)] [AlO p a] (fun v M => v = .int .i64 (a.xs.length : Int) ∧ M = [AlO p a]) := by
  refine spec_of Try.func53 rfl rfl (Nat.le_of_ble_eq_true rfl) (fun w F => ?_)
  refine hc_open .head AlO_open ?_
  rintro ⟨hv, gm⟩
  dsimp only
  refine hc_rowV (.tail .head) ?_ ?_
  · intro e0 e1
    subst e0
    (refine hc_seq ?_; refine hc_lex ?_; refine hx_plain rfl ?_; refine h_assign rfl rfl rfl rfl ?_; refine hx_nil ?_; refine hq_then ?_; refine hc_seq ?_; refine hc_lex ?_; refine hx_plain rfl ?_; refine h_move rfl rfl rfl rfl ?_; refine hx_plain rfl ?_; refine h_nilCheck rfl rfl rfl rfl ?_; refine hx_plain rfl ?_; refine h_fieldAddr0 rfl rfl FC.out rfl rfl ?_; refine hx_plain rfl ?_; refine h_load rfl rfl UC.out rfl .head rfl rfl rfl ?_; refine hx_plain rfl ?_; refine h_len_slice rfl rfl rfl UC.out rfl rfl rfl ?_; refine hx_plain rfl ?_; refine h_assign rfl rfl rfl rfl ?_; refine hx_nil ?_; refine hq_then ?_; refine hc_ret ?_)
    refine hq_ret1 (.inr rfl) rfl rfl ⟨by rw [e1]; rfl, rfl⟩ (fun _ h => AlO_shut (St.perm (List.Perm.swap _ _ _) (by rw [e1]; exact St.rowV_nil h)))
  · rintro g cap rfl
    (refine hc_seq ?_; refine hc_lex ?_; refine hx_plain rfl ?_; refine h_assign rfl rfl rfl rfl ?_; refine hx_nil ?_; refine hq_then ?_; refine hc_seq ?_; refine hc_lex ?_; refine hx_plain rfl ?_; refine h_move rfl rfl rfl rfl ?_; refine hx_plain rfl ?_; refine h_nilCheck rfl rfl rfl rfl ?_; refine hx_plain rfl ?_; refine h_fieldAddr0 rfl rfl FC.out rfl rfl ?_; refine hx_plain rfl ?_; refine h_load rfl rfl UC.out rfl (.tail .head) rfl rfl rfl ?_; refine hx_plain rfl ?_; refine h_len_slice rfl rfl rfl UC.out rfl rfl rfl ?_; refine hx_plain rfl ?_; refine h_assign rfl rfl rfl rfl ?_; refine hx_nil ?_; refine hq_then ?_; refine hc_ret ?_)
    refine hq_ret1 (.inr rfl) rfl rfl ⟨rfl, rfl⟩ (fun _ h => AlO_mk rfl (St.perm (List.Perm.swap _ _ _) h))

theorem next_spec (p : Nat) (a : AS Int) : Spec Try.prog 51 [.pointer (some ⟨p, 0, none⟩)] [AlO p a] (fun v M => v = .tuple #[.int .u8 ((a.xs.getD 0 (tz T)).k), .int .i64 (a.xs.getD 0 (tz T)).at_, .bool (decide (0 < a.xs.length))] ∧ M = [AlO p a]) := by
  refine spec_of Try.func51 rfl rfl (Nat.le_of_ble_eq_true rfl) (fun w F => ?_)
  refine hc_open .head AlO_open ?_
  rintro ⟨hv, gm⟩
  dsimp only
  refine hc_rowV (.tail .head) ?_ ?_
  · intro e0 e1
    subst e0
    (refine hc_seq ?_; refine hc_lex ?_; refine hx_plain rfl ?_; refine h_assign rfl rfl rfl rfl ?_; refine hx_plain rfl ?_; refine h_assign rfl rfl rfl rfl ?_; refine hx_plain rfl ?_; refine h_assign rfl rfl rfl rfl ?_; refine hx_nil ?_; refine hq_then ?_; refine hc_seq ?_; refine hc_lex ?_; refine hx_plain rfl ?_; refine h_assign rfl rfl rfl rfl ?_; refine hx_nil ?_; refine hq_then ?_; refine hc_seq ?_; refine hc_seq ?_; refine hc_lex ?_; refine hx_plain rfl ?_; refine h_move rfl rfl rfl rfl ?_; refine hx_plain rfl ?_; refine h_nilCheck rfl rfl rfl rfl ?_; refine hx_plain rfl ?_; refine h_fieldAddr0 rfl rfl FC.out rfl rfl ?_; refine hx_plain rfl ?_; refine h_load rfl rfl UC.out rfl .head rfl rfl rfl ?_; refine hx_plain rfl ?_; refine h_len_slice rfl rfl rfl UC.out rfl rfl rfl ?_; refine hx_plain rfl ?_; refine h_cmp rfl rfl rfl rfl rfl rfl ?_; refine hx_nil ?_; refine hq_then ?_; refine hc_condT rfl ?_; refine hc_seq ?_; refine hc_lex ?_; refine hx_plain rfl ?_; refine h_move rfl rfl rfl rfl ?_; refine hx_plain rfl ?_; refine h_assign rfl rfl rfl rfl ?_; refine hx_plain rfl ?_; refine h_assign rfl rfl rfl rfl ?_; refine hx_plain rfl ?_; refine h_assign rfl rfl rfl rfl ?_; refine hx_nil ?_; refine hq_then ?_; refine hc_ret ?_; refine hq_ret_then ?_)
    refine hq_ret3 (.inr rfl) rfl rfl rfl rfl ⟨by rw [e1]; rfl, rfl⟩ (fun _ h => AlO_shut (St.perm (List.Perm.swap _ _ _) (by rw [e1]; exact St.rowV_nil h)))
  · rintro g cap rfl
    by_cases h0 : 0 < a.xs.length
    · have e0 : a.xs[0]? = some (a.xs.getD 0 (tz T)) := HS.at_get T (s := ⟨a.xs, a.m, 0⟩) h0
      (refine hc_seq ?_; refine hc_lex ?_; refine hx_plain rfl ?_; refine h_assign rfl rfl rfl rfl ?_; refine hx_plain rfl ?_; refine h_assign rfl rfl rfl rfl ?_; refine hx_plain rfl ?_; refine h_assign rfl rfl rfl rfl ?_; refine hx_nil ?_; refine hq_then ?_; refine hc_seq ?_; refine hc_lex ?_; refine hx_plain rfl ?_; refine h_assign rfl rfl rfl rfl ?_; refine hx_nil ?_; refine hq_then ?_; refine hc_seq ?_; refine hc_seq ?_; refine hc_lex ?_; refine hx_plain rfl ?_; refine h_move rfl rfl rfl rfl ?_; refine hx_plain rfl ?_; refine h_nilCheck rfl rfl rfl rfl ?_; refine hx_plain rfl ?_; refine h_fieldAddr0 rfl rfl FC.out rfl rfl ?_; refine hx_plain rfl ?_; refine h_load rfl rfl UC.out rfl (.tail .head) rfl rfl rfl ?_; refine hx_plain rfl ?_; refine h_len_slice rfl rfl rfl UC.out rfl rfl rfl ?_; refine hx_plain rfl ?_; refine h_cmp rfl rfl rfl rfl rfl rfl ?_; refine hx_nil ?_; refine hq_then ?_; refine hc_condDF rfl (by omega) ?_; refine hc_skip ?_; refine hq_then ?_; refine hc_seq ?_; refine hc_draw0 (by kernel_rfl) (by kernel_rfl) ?_; refine hx_plain rfl ?_; refine h_move rfl rfl rfl rfl ?_; refine hx_plain rfl ?_; refine h_nilCheck rfl rfl rfl rfl ?_; refine hx_plain rfl ?_; refine h_fieldAddr0 rfl rfl FC.out rfl rfl ?_; refine hx_plain rfl ?_; refine h_load rfl rfl UC.out rfl (.tail .head) rfl rfl rfl ?_; refine hx_plain rfl ?_; refine h_rowAddr rfl rfl rfl UC.out IC.size (by omega) (by omega) rfl rfl ?_; refine hx_plain rfl ?_; refine h_fieldAddr0 rfl rfl FC.out rfl rfl ?_; refine hx_plain rfl ?_; refine h_rowLoad0 rfl .head rfl UC.out rfl (by with_reducible assumption) rfl rfl rfl ?_; refine hx_plain rfl ?_; refine h_move rfl rfl rfl rfl ?_; refine hx_plain rfl ?_; refine h_nilCheck rfl rfl rfl rfl ?_; refine hx_plain rfl ?_; refine h_fieldAddr0 rfl rfl FC.out rfl rfl ?_; refine hx_plain rfl ?_; refine h_load rfl rfl UC.out rfl (.tail .head) rfl rfl rfl ?_; refine hx_plain rfl ?_; refine h_rowAddr rfl rfl rfl UC.out IC.size (by omega) (by omega) rfl rfl ?_; refine hx_plain rfl ?_; refine h_fieldAddr0 rfl rfl FC.out rfl rfl ?_; refine hx_plain rfl ?_; refine h_rowLoad0 rfl .head rfl UC.out rfl (by with_reducible assumption) rfl rfl rfl ?_; refine hx_plain rfl ?_; refine h_assign rfl rfl rfl rfl ?_; refine hx_plain rfl ?_; refine h_assign rfl rfl rfl rfl ?_; refine hx_plain rfl ?_; refine h_assign rfl rfl rfl rfl ?_; refine hx_nil ?_; refine hq_then ?_; refine hc_ret ?_)
      refine hq_ret3 (.inr rfl) rfl rfl rfl rfl ⟨by rw [decide_eq_true h0], rfl⟩ (fun _ h => AlO_mk rfl (St.perm (List.Perm.swap _ _ _) h))
    · (refine hc_seq ?_; refine hc_lex ?_; refine hx_plain rfl ?_; refine h_assign rfl rfl rfl rfl ?_; refine hx_plain rfl ?_; refine h_assign rfl rfl rfl rfl ?_; refine hx_plain rfl ?_; refine h_assign rfl rfl rfl rfl ?_; refine hx_nil ?_; refine hq_then ?_; refine hc_seq ?_; refine hc_lex ?_; refine hx_plain rfl ?_; refine h_assign rfl rfl rfl rfl ?_; refine hx_nil ?_; refine hq_then ?_; refine hc_seq ?_; refine hc_seq ?_; refine hc_lex ?_; refine hx_plain rfl ?_; refine h_move rfl rfl rfl rfl ?_; refine hx_plain rfl ?_; refine h_nilCheck rfl rfl rfl rfl ?_; refine hx_plain rfl ?_; refine h_fieldAddr0 rfl rfl FC.out rfl rfl ?_; refine hx_plain rfl ?_; refine h_load rfl rfl UC.out rfl (.tail .head) rfl rfl rfl ?_; refine hx_plain rfl ?_; refine h_len_slice rfl rfl rfl UC.out rfl rfl rfl ?_; refine hx_plain rfl ?_; refine h_cmp rfl rfl rfl rfl rfl rfl ?_; refine hx_nil ?_; refine hq_then ?_; refine hc_condDT rfl (by omega) ?_; refine hc_seq ?_; refine hc_lex ?_; refine hx_plain rfl ?_; refine h_move rfl rfl rfl rfl ?_; refine hx_plain rfl ?_; refine h_assign rfl rfl rfl rfl ?_; refine hx_plain rfl ?_; refine h_assign rfl rfl rfl rfl ?_; refine hx_plain rfl ?_; refine h_assign rfl rfl rfl rfl ?_; refine hx_nil ?_; refine hq_then ?_; refine hc_ret ?_; refine hq_ret_then ?_)
      have e1 : a.xs = [] := List.eq_nil_of_length_eq_zero (by omega)
      refine hq_ret3 (.inr rfl) rfl rfl rfl rfl ⟨by rw [e1]; rfl, rfl⟩ (fun _ h => AlO_mk rfl (St.perm (List.Perm.swap _ _ _) h))

set_option maxHeartbeats 4000000 in
theorem set_spec (p : Nat) (a : AS Int) (k : Int) (at_ : Int) (hw : a.WF T) (hl : a.xs.length < 4398046511104) :
    Spec Try.prog 50 [.pointer (some ⟨p, 0, none⟩), .int .u8 k, .int .i64 at_] [AlO p a] (fun v M => v = .tuple #[] ∧ M = [AlO p (a.set T k at_)]) := by
  refine spec_of Try.func50 rfl rfl (Nat.le_of_ble_eq_true rfl) (fun w F => ?_)
  refine hc_open .head AlO_open ?_
  rintro ⟨hv, gm⟩
  dsimp only
  cases hm : mget T.ko a.m k with
  | some v =>
    obtain ⟨i, rfl, hi⟩ := hw k v hm
    have hset : a.set T k at_ = .fin T (HS.lay T ⟨a.xs, a.m, i⟩ ⟨k, at_⟩) := by rw [AS.set, hm]; rfl
    rw [hset]
    refine hc_rowV (.tail .head) (fun _ e => by rw [e] at hi; exact absurd hi (Nat.not_lt_zero _)) ?_
    rintro g cap rfl
    (refine hc_seq ?_; refine hc_lex ?_; refine hx_plain rfl ?_; refine h_move rfl rfl rfl rfl ?_; refine hx_plain rfl ?_; refine h_nilCheck rfl rfl rfl rfl ?_; refine hx_plain rfl ?_; refine h_fieldAddr0 rfl rfl FC.out rfl rfl ?_; refine hx_plain rfl ?_; refine h_load rfl rfl UC.out rfl (.tail .head) rfl rfl rfl ?_; refine hx_plain rfl ?_; refine h_move rfl rfl rfl rfl ?_; refine hx_plain rfl ?_; refine h_lookupS rfl (.tail (.tail .head)) rfl UC.out UC.out IC.zero rfl (by with_reducible assumption) rfl rfl ?_; refine hx_plain rfl ?_; refine h_move rfl rfl rfl rfl ?_; refine hx_plain rfl ?_; refine h_extract rfl rfl rfl rfl rfl ?_; refine hx_plain rfl ?_; refine h_extract rfl rfl rfl rfl rfl ?_; refine hx_plain rfl ?_; refine h_assign rfl rfl rfl rfl ?_; refine hx_plain rfl ?_; refine h_assign rfl rfl rfl rfl ?_; refine hx_nil ?_; refine hq_then ?_; refine hc_seq ?_; refine hc_seq ?_; refine hc_lex ?_; refine hx_plain rfl ?_; refine h_move rfl rfl rfl rfl ?_; refine hx_plain rfl ?_; refine h_not rfl rfl rfl rfl ?_; refine hx_nil ?_; refine hq_then ?_; refine hc_condF rfl ?_; refine hc_skip ?_; refine hq_then ?_; refine hc_seq ?_; refine hc_lex ?_; refine hx_plain rfl ?_; refine h_move rfl rfl rfl rfl ?_; refine hx_plain rfl ?_; refine h_move rfl rfl rfl rfl ?_; refine hx_plain rfl ?_; refine h_move rfl rfl rfl rfl ?_; refine hx_plain rfl ?_; refine h_move rfl rfl rfl rfl ?_; refine hx_plain rfl ?_; refine h_build rfl inferInstance rfl rfl rfl rfl ?_; refine hx_plain rfl ?_)
    refine h_call rfl rfl rfl rfl rfl rfl rfl rfl EC.out (.cons (.tail .head) (.cons .head (.cons .head .nil))) (lay_spec p g cap gm a.xs.length a.xs a.m i ⟨k, at_⟩ rfl hi) ?_
    rintro v M ⟨rfl, rfl⟩
    (refine hx_nil ?_; refine hq_then ?_; refine hc_lex ?_; refine hx_plain rfl ?_; refine h_move rfl rfl rfl rfl ?_; refine hx_plain rfl ?_; refine h_move rfl rfl rfl rfl ?_; refine hx_plain rfl ?_)
    refine h_call rfl rfl rfl rfl rfl rfl rfl rfl EC.out (.cons .head (.cons .head (.cons .head .nil))) (sift_spec p g cap gm (HS.lay T ⟨a.xs, a.m, i⟩ ⟨k, at_⟩) a.xs.length (by simp [HS.lay]) hi (by omega)) ?_
    rintro v M ⟨rfl, rfl⟩
    (refine hx_nil ?_)
    refine hq_ret0 (.inl rfl) rfl ⟨rfl, rfl⟩ (fun _ h => ?_)
    exact AlO_mk (by rw [siftR_len]; simp [HS.lay]) h
  | none =>
    have hset : a.set T k at_ = .fin T (HS.lay T ⟨a.xs ++ [tz T], a.m, a.xs.length⟩ ⟨k, at_⟩) := by rw [AS.set, hm]
    rw [hset]
    refine hc_rowV (.tail .head) ?_ ?_
    · intro e0 e1
      subst e0
      obtain ⟨xs, m⟩ := a
      dsimp only at e1
      subst e1
      (refine hc_seq ?_; refine hc_lex ?_; refine hx_plain rfl ?_; refine h_move rfl rfl rfl rfl ?_; refine hx_plain rfl ?_; refine h_nilCheck rfl rfl rfl rfl ?_; refine hx_plain rfl ?_; refine h_fieldAddr0 rfl rfl FC.out rfl rfl ?_; refine hx_plain rfl ?_; refine h_load rfl rfl UC.out rfl .head rfl rfl rfl ?_; refine hx_plain rfl ?_; refine h_move rfl rfl rfl rfl ?_; refine hx_plain rfl ?_; refine h_lookupN rfl (.tail .head) rfl UC.out UC.out IC.zero rfl (by with_reducible assumption) rfl rfl ?_; refine hx_plain rfl ?_; refine h_move rfl rfl rfl rfl ?_; refine hx_plain rfl ?_; refine h_extract rfl rfl rfl rfl rfl ?_; refine hx_plain rfl ?_; refine h_extract rfl rfl rfl rfl rfl ?_; refine hx_plain rfl ?_; refine h_assign rfl rfl rfl rfl ?_; refine hx_plain rfl ?_; refine h_assign rfl rfl rfl rfl ?_; refine hx_nil ?_; refine hq_then ?_; refine hc_seq ?_; refine hc_seq ?_; refine hc_lex ?_; refine hx_plain rfl ?_; refine h_move rfl rfl rfl rfl ?_; refine hx_plain rfl ?_; refine h_not rfl rfl rfl rfl ?_; refine hx_nil ?_; refine hq_then ?_; refine hc_condT rfl ?_; refine hc_seq ?_; refine hc_lex ?_; refine hx_plain rfl ?_; refine h_move rfl rfl rfl rfl ?_; refine hx_plain rfl ?_; refine h_nilCheck rfl rfl rfl rfl ?_; refine hx_plain rfl ?_; refine h_fieldAddr0 rfl rfl FC.out rfl rfl ?_; refine hx_plain rfl ?_; refine h_load rfl rfl UC.out rfl .head rfl rfl rfl ?_; refine hx_plain rfl ?_; refine h_len_slice rfl rfl rfl UC.out rfl rfl rfl ?_; refine hx_plain rfl ?_; refine h_assign rfl rfl rfl rfl ?_; refine hx_nil ?_; refine hq_then ?_; refine hc_lex ?_; refine hx_plain rfl ?_; refine h_move rfl rfl rfl rfl ?_; refine hx_plain rfl ?_; refine h_move rfl rfl rfl rfl ?_; refine hx_plain rfl ?_; refine h_nilCheck rfl rfl rfl rfl ?_; refine hx_plain rfl ?_; refine h_fieldAddr0 rfl rfl FC.out rfl rfl ?_; refine hx_plain rfl ?_; refine h_load rfl rfl UC.out rfl .head rfl rfl rfl ?_; refine hx_plain rfl ?_; refine h_build rfl inferInstance rfl rfl rfl rfl ?_; refine hx_plain rfl ?_; (refine h_buildSlice rfl rfl rfl UC.out IC.size IC.zero rfl rfl (by intro v hv; simp at hv; first | (subst hv; rfl) | (rcases hv with rfl | rfl <;> rfl) | (rcases hv with rfl | rfl | rfl <;> rfl)) (by omega) rfl rfl (fun _ => ?_)); refine hx_plain rfl ?_)
      refine h_appendNil timE 115 [tz T] rfl rfl rfl rfl rfl UC.out IC.out rfl .head rfl rfl (one_row timE _) (by unfold maxLen; omega) (by omega) rfl rfl (fun g' cap' => ?_)
      (refine hx_plain rfl ?_; refine h_nilCheck rfl rfl rfl rfl ?_; refine hx_plain rfl ?_; refine h_fieldAddr0 rfl rfl FC.out rfl rfl ?_; refine hx_plain rfl ?_; refine h_store rfl rfl rfl rfl rfl rfl IC.size (.tail (.tail .head)) rfl rfl (Nat.le_of_ble_eq_true rfl) (List.all_eq_true.1 rfl) ?_; refine hx_nil ?_; refine hq_then ?_; refine hc_seq ?_; refine hc_lex ?_; refine hx_plain rfl ?_; refine h_move rfl rfl rfl rfl ?_; refine hx_plain rfl ?_; refine h_move rfl rfl rfl rfl ?_; refine hx_plain rfl ?_; refine h_move rfl rfl rfl rfl ?_; refine hx_plain rfl ?_; refine h_move rfl rfl rfl rfl ?_; refine hx_plain rfl ?_; refine h_build rfl inferInstance rfl rfl rfl rfl ?_; refine hx_plain rfl ?_)
      refine h_call rfl rfl rfl rfl rfl rfl rfl rfl EC.out (.cons .head (.cons .head (.cons (.tail .head) .nil))) (lay_spec p g' cap' gm _ (([] : List (Tim Int)) ++ [tz T]) m ([] : List (Tim Int)).length ⟨k, at_⟩ rfl (by simp)) ?_
      rintro v M ⟨rfl, rfl⟩
      (refine hx_nil ?_; refine hq_then ?_; refine hc_lex ?_; refine hx_plain rfl ?_; refine h_move rfl rfl rfl rfl ?_; refine hx_plain rfl ?_; refine h_move rfl rfl rfl rfl ?_; refine hx_plain rfl ?_)
      refine h_call rfl rfl rfl rfl rfl rfl rfl rfl EC.out (.cons .head (.cons .head (.cons .head .nil))) (sift_spec p g' cap' gm (HS.lay T ⟨([] : List (Tim Int)) ++ [tz T], m, ([] : List (Tim Int)).length⟩ ⟨k, at_⟩) (([] : List (Tim Int)) ++ [tz T]).length (by simp [HS.lay]) (by simp [HS.lay]) (by simp <;> omega)) ?_
      rintro v M ⟨rfl, rfl⟩
      (refine hx_nil ?_)
      refine hq_ret0 (.inl rfl) rfl ⟨rfl, rfl⟩ (fun _ h => ?_)
      exact AlO_mk (by rw [siftR_len]; simp [HS.lay]) (h.sub (.cons .head (.cons .head (.cons .head .nil))))
    · rintro g cap rfl
      (refine hc_seq ?_; refine hc_lex ?_; refine hx_plain rfl ?_; refine h_move rfl rfl rfl rfl ?_; refine hx_plain rfl ?_; refine h_nilCheck rfl rfl rfl rfl ?_; refine hx_plain rfl ?_; refine h_fieldAddr0 rfl rfl FC.out rfl rfl ?_; refine hx_plain rfl ?_; refine h_load rfl rfl UC.out rfl (.tail .head) rfl rfl rfl ?_; refine hx_plain rfl ?_; refine h_move rfl rfl rfl rfl ?_; refine hx_plain rfl ?_; refine h_lookupN rfl (.tail (.tail .head)) rfl UC.out UC.out IC.zero rfl (by with_reducible assumption) rfl rfl ?_; refine hx_plain rfl ?_; refine h_move rfl rfl rfl rfl ?_; refine hx_plain rfl ?_; refine h_extract rfl rfl rfl rfl rfl ?_; refine hx_plain rfl ?_; refine h_extract rfl rfl rfl rfl rfl ?_; refine hx_plain rfl ?_; refine h_assign rfl rfl rfl rfl ?_; refine hx_plain rfl ?_; refine h_assign rfl rfl rfl rfl ?_; refine hx_nil ?_; refine hq_then ?_; refine hc_seq ?_; refine hc_seq ?_; refine hc_lex ?_; refine hx_plain rfl ?_; refine h_move rfl rfl rfl rfl ?_; refine hx_plain rfl ?_; refine h_not rfl rfl rfl rfl ?_; refine hx_nil ?_; refine hq_then ?_; refine hc_condT rfl ?_; refine hc_seq ?_; refine hc_lex ?_; refine hx_plain rfl ?_; refine h_move rfl rfl rfl rfl ?_; refine hx_plain rfl ?_; refine h_nilCheck rfl rfl rfl rfl ?_; refine hx_plain rfl ?_; refine h_fieldAddr0 rfl rfl FC.out rfl rfl ?_; refine hx_plain rfl ?_; refine h_load rfl rfl UC.out rfl (.tail .head) rfl rfl rfl ?_; refine hx_plain rfl ?_; refine h_len_slice rfl rfl rfl UC.out rfl rfl rfl ?_; refine hx_plain rfl ?_; refine h_assign rfl rfl rfl rfl ?_; refine hx_nil ?_; refine hq_then ?_; refine hc_lex ?_; refine hx_plain rfl ?_; refine h_move rfl rfl rfl rfl ?_; refine hx_plain rfl ?_; refine h_move rfl rfl rfl rfl ?_; refine hx_plain rfl ?_; refine h_nilCheck rfl rfl rfl rfl ?_; refine hx_plain rfl ?_; refine h_fieldAddr0 rfl rfl FC.out rfl rfl ?_; refine hx_plain rfl ?_; refine h_load rfl rfl UC.out rfl (.tail .head) rfl rfl rfl ?_; refine hx_plain rfl ?_; refine h_build rfl inferInstance rfl rfl rfl rfl ?_; refine hx_plain rfl ?_; (refine h_buildSlice rfl rfl rfl UC.out IC.size IC.zero rfl rfl (by intro v hv; simp at hv; first | (subst hv; rfl) | (rcases hv with rfl | rfl <;> rfl) | (rcases hv with rfl | rfl | rfl <;> rfl)) (by omega) rfl rfl (fun _ => ?_)); refine hx_plain rfl ?_)
      refine h_appendRow [tz T] rfl rfl rfl (.tail .head) rfl rfl UC.out IC.out rfl .head rfl rfl (one_row timE _) (by unfold maxLen; omega) (by omega) rfl rfl (fun g' cap' => ?_)
      (refine hx_plain rfl ?_; refine h_nilCheck rfl rfl rfl rfl ?_; refine hx_plain rfl ?_; refine h_fieldAddr0 rfl rfl FC.out rfl rfl ?_; refine hx_plain rfl ?_; refine h_store rfl rfl rfl rfl rfl rfl IC.size (.tail (.tail .head)) rfl rfl (Nat.le_of_ble_eq_true rfl) (List.all_eq_true.1 rfl) ?_; refine hx_nil ?_; refine hq_then ?_; refine hc_seq ?_; refine hc_lex ?_; refine hx_plain rfl ?_; refine h_move rfl rfl rfl rfl ?_; refine hx_plain rfl ?_; refine h_move rfl rfl rfl rfl ?_; refine hx_plain rfl ?_; refine h_move rfl rfl rfl rfl ?_; refine hx_plain rfl ?_; refine h_move rfl rfl rfl rfl ?_; refine hx_plain rfl ?_; refine h_build rfl inferInstance rfl rfl rfl rfl ?_; refine hx_plain rfl ?_)
      refine h_call rfl rfl rfl rfl rfl rfl rfl rfl EC.out (.cons .head (.cons .head (.cons (.tail .head) .nil))) (lay_spec p g' cap' gm _ (a.xs ++ [tz T]) a.m a.xs.length ⟨k, at_⟩ rfl (by simp)) ?_
      rintro v M ⟨rfl, rfl⟩
      (refine hx_nil ?_; refine hq_then ?_; refine hc_lex ?_; refine hx_plain rfl ?_; refine h_move rfl rfl rfl rfl ?_; refine hx_plain rfl ?_; refine h_move rfl rfl rfl rfl ?_; refine hx_plain rfl ?_)
      refine h_call rfl rfl rfl rfl rfl rfl rfl rfl EC.out (.cons .head (.cons .head (.cons .head .nil))) (sift_spec p g' cap' gm (HS.lay T ⟨a.xs ++ [tz T], a.m, a.xs.length⟩ ⟨k, at_⟩) (a.xs ++ [tz T]).length (by simp [HS.lay]) (by simp [HS.lay]) (by simp <;> omega)) ?_
      rintro v M ⟨rfl, rfl⟩
      (refine hx_nil ?_)
      refine hq_ret0 (.inl rfl) rfl ⟨rfl, rfl⟩ (fun _ h => ?_)
      exact AlO_mk (by rw [siftR_len]; simp [HS.lay]) (h.sub (.cons .head (.cons .head (.cons .head .nil))))
end Go.Proofs.Ytggohplddejniaa.AB
