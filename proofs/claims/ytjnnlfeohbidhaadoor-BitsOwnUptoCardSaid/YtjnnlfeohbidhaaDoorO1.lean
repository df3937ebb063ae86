import Derived.Test.YtjnnlfeohbidhaaDoorK2
namespace Go.Proofs.YtjnnlfeohbidhaaDoor
open Go Go.Proofs Go.RowKit
set_option maxRecDepth 4000

theorem all_cons {A : Asn} {M : List Asn} {w w0 : World} {F0 : Nat → Prop} {R : List Asn} (h : St w0 F0 (All (A :: M) :: R) w) : St w0 F0 (A :: All M :: R) w := by
  have h1 : St w0 F0 (A :: (M ++ R)) w := St.all.1 h
  have h2 : St w0 F0 (M ++ (A :: R)) w := h1.perm List.perm_middle.symm
  exact (St.all.2 h2).perm (List.Perm.swap _ _ _)
theorem all_mk {A : Asn} {M : List Asn} {w w0 : World} {F0 : Nat → Prop} {R : List Asn} (h : St w0 F0 (A :: All M :: R) w) : St w0 F0 (All (A :: M) :: R) w := by
  have h1 : St w0 F0 (All M :: A :: R) w := h.perm (List.Perm.swap _ _ _)
  have h2 : St w0 F0 (M ++ (A :: R)) w := St.all.1 h1
  exact St.all.2 (h2.perm List.perm_middle)
theorem all_perm {M M' : List Asn} {w w0 : World} {F0 : Nat → Prop} {R : List Asn} (hp : M.Perm M') (h : St w0 F0 (All M :: R) w) : St w0 F0 (All M' :: R) w :=
  St.all.2 ((St.all.1 h).perm (hp.append_right R))
theorem all_drop {X : Type} {f : X → Asn} {l : List X} {i : Nat} (hi : i < l.length) (w w0 : World) (F0 : Nat → Prop) (R : List Asn) (h : St w0 F0 (All ((l.drop i).map f) :: R) w) : ∃ _ : Unit, St w0 F0 ([f l[i], All ((l.drop (i + 1)).map f)] ++ R) w := by
  rw [List.drop_eq_getElem_cons hi, List.map_cons] at h
  exact ⟨(), all_cons h⟩
set_option maxHeartbeats 4000000 in
theorem all_spec (p : Nat) (ents : List (SlV × Nat)) (g c : Nat) (sls : List SlV) (wv : Value) (xs : List Int) (hW : BkW ents) (hn : ents.length + 3 * sls.length ≤ 1099511627776) (hx : xs.length ≤ 1099511627600) (hs : sls.length ≤ 1048576) :
    Spec Tryd.prog 20 [.pointer (some ⟨p, 0, none⟩), .slice (some ⟨g, 0, none⟩) sls.length c, wv] [BkO p ents, Row slE 22 g c sls, RowV byteE 5 wv xs, All (sls.map fun s => RowV byteE 5 s.v xs)] (fun u M => u = .bool true ∧ ∃ ents', ents'.length = ents.length + 3 * sls.length ∧ BkW ents' ∧ M = [BkO p ents']) := by
  refine spec_of Tryd.func20 rfl rfl (Nat.le_of_ble_eq_true rfl) (fun w F => ?_)
  (refine hc_seq ?_; refine hc_lex ?_; refine hx_plain rfl ?_; refine h_assign rfl rfl rfl rfl ?_; refine hx_nil ?_; refine hq_then ?_; refine hc_seq ?_; refine hc_seq ?_; refine hc_lex ?_; refine hx_plain rfl ?_; refine h_assign rfl rfl rfl rfl ?_; refine hx_nil ?_; refine hq_then ?_; refine hc_block ?_)
  refine hc_cut (id := 0) (Y := List (SlV × Nat)) (fun _ => []) (fun y => [BkO p y]) (fun y => y.length = ents.length + 3 * sls.length ∧ BkW y) ?_ ?_
  · refine hc_loop (X := Nat × List (SlV × Nat)) (fun x => [(0, .pointer (some ⟨p, 0, none⟩)), (1, .slice (some ⟨g, 0, none⟩) sls.length c), (2, wv), (7, .int .i64 (x.1 : Int))]) (fun x => [BkO p x.2, Row slE 22 g c sls, RowV byteE 5 wv xs, All ((sls.drop x.1).map fun s => RowV byteE 5 s.v xs)]) (fun x => x.1 ≤ sls.length ∧ x.2.length = ents.length + 3 * x.1 ∧ BkW x.2) (fun x => sls.length - x.1) (0, ents) (.cons rfl (.cons rfl (.cons rfl (.cons rfl .nil)))) ⟨Nat.zero_le _, rfl, hW⟩ (fun _ h => h) ?_
    rintro ⟨i, es⟩ ⟨hi, hl, hw⟩
    dsimp only at hi hl hw ⊢
    by_cases hlt : i < sls.length
    case neg =>
      obtain rfl : i = sls.length := by omega
      (refine hc_seq ?_; refine hc_seq ?_; refine hc_lex ?_; refine hx_plain rfl ?_; refine h_move rfl rfl rfl rfl ?_; refine hx_plain rfl ?_; refine h_move rfl rfl rfl rfl ?_; refine hx_plain rfl ?_; refine h_len_slice rfl rfl rfl UC.out rfl rfl rfl ?_; refine hx_plain rfl ?_; refine h_cmp rfl rfl rfl rfl rfl rfl ?_; refine hx_nil ?_; refine hq_then ?_; refine hc_condDF rfl (by omega) ?_; refine hc_exit ?_; refine hq_exit_then ?_; refine hq_exit_then ?_)
      exact hq_cut es ⟨hl, hw⟩ .nil (fun _ h => h.sub (.cons .head .nil))
    obtain ⟨s, hse⟩ : ∃ s, sls[i] = s := ⟨_, rfl⟩
    have e1 : sls[((i : Nat) : Int).toNat]? = some s := by rw [show ((i : Nat) : Int).toNat = i by omega, List.getElem?_eq_getElem hlt, hse]
    refine hc_open (.tail (.tail (.tail .head))) (all_drop hlt) ?_
    rintro ⟨⟩
    rw [hse]
    (refine hc_seq ?_; refine hc_seq ?_; refine hc_lex ?_; refine hx_plain rfl ?_; refine h_move rfl rfl rfl rfl ?_; refine hx_plain rfl ?_; refine h_move rfl rfl rfl rfl ?_; refine hx_plain rfl ?_; refine h_len_slice rfl rfl rfl UC.out rfl rfl rfl ?_; refine hx_plain rfl ?_; refine h_cmp rfl rfl rfl rfl rfl rfl ?_; refine hx_nil ?_; refine hq_then ?_; refine hc_condDT rfl (by omega) ?_; refine hc_skip ?_; refine hq_then ?_; refine hc_seq ?_; refine hc_block ?_; refine hc_seq ?_; refine hc_lex ?_; refine hx_plain rfl ?_; refine h_move rfl rfl rfl rfl ?_; refine hx_plain rfl ?_; refine h_move rfl rfl rfl rfl ?_; refine hx_plain rfl ?_; refine h_rowAddr rfl rfl rfl UC.out IC.size (by omega) (by omega) rfl rfl ?_; refine hx_plain rfl ?_; refine h_rowLoad1 rfl (.tail (.tail (.tail .head))) rfl UC.out rfl (by with_reducible assumption) rfl rfl rfl ?_; refine hx_plain rfl ?_; refine h_move rfl rfl rfl rfl ?_; refine hx_plain rfl ?_)
    refine h_callRd rfl rfl rfl rfl rfl rfl EC.out (fun w' h => sameBytes (h.rdRowV .head) (h.rdRowV (.tail (.tail (.tail (.tail .head)))))) ?_
    rw [decide_eq_true rfl]
    (refine hx_plain rfl ?_; refine h_assign rfl rfl rfl rfl ?_; refine hx_nil ?_; refine hq_then ?_; refine hc_seq ?_; refine hc_seq ?_; refine hc_lex ?_; refine hx_plain rfl ?_; refine h_move rfl rfl rfl rfl ?_; refine hx_plain rfl ?_; refine h_not rfl rfl rfl rfl ?_; refine hx_nil ?_; refine hq_then ?_; refine hc_condF rfl ?_; refine hc_skip ?_; refine hq_then ?_; refine hc_lex ?_; refine hx_plain rfl ?_; refine h_move rfl rfl rfl rfl ?_; refine hx_plain rfl ?_; refine h_move rfl rfl rfl rfl ?_; refine hx_plain rfl ?_; refine h_move rfl rfl rfl rfl ?_; refine hx_plain rfl ?_; refine h_rowAddr rfl rfl rfl UC.out IC.size (by omega) (by omega) rfl rfl ?_; refine hx_plain rfl ?_; refine h_rowLoad1 rfl (.tail (.tail (.tail .head))) rfl UC.out rfl (by with_reducible assumption) rfl rfl rfl ?_; refine hx_plain rfl ?_)
    refine h_call rfl rfl rfl rfl rfl rfl rfl rfl EC.out (.cons (.tail (.tail .head)) (.cons .head .nil)) (keep_spec p es s.v xs hw (by omega) hx) ?_
    rintro u M ⟨rfl, es', hl', hw', rfl⟩
    (refine hx_nil ?_; refine hq_norm_block ?_; refine hq_then ?_; refine hc_lex ?_; refine hx_plain rfl ?_; refine h_move rfl rfl rfl rfl ?_; refine hx_plain rfl ?_; refine h_arithI rfl rfl rfl rfl (by omega) rfl rfl ?_; refine hx_plain rfl ?_; refine h_assign rfl rfl rfl rfl ?_; refine hx_nil ?_)
    exact hq_round (i + 1, es') (by show sls.length - (i + 1) < sls.length - i; omega) ⟨by show i + 1 ≤ _; omega, by show es'.length = _ + 3 * (i + 1); omega, hw'⟩ (.cons rfl (.cons rfl (.cons rfl (.cons rfl .nil)))) (fun _ h => h.sub (.cons .head (.cons (.tail .head) (.cons (.tail .head) (.cons .head .nil)))))
  · rintro es ⟨hl, hw⟩
    (refine hq_exit_block ?_; refine hq_then ?_; refine hc_seq ?_; refine hc_lex ?_; refine hx_plain rfl ?_; refine h_assign rfl rfl rfl rfl ?_; refine hx_nil ?_; refine hq_then ?_; refine hc_ret ?_)
    exact hq_ret1 (.inr rfl) rfl rfl ⟨rfl, es, hl, hw, rfl⟩ (fun _ h => h)
end Go.Proofs.YtjnnlfeohbidhaaDoor
