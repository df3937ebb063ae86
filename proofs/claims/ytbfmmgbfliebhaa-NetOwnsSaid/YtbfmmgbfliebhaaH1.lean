import Derived.Test.YtbfmmgbfliebhaaN4
import Derived.Test.YtbfmmgbfliebhaaEngU
namespace Go.Proofs.Ytbfmmgbfliebhaa
open Go Go.Proofs Go.RowKit
set_option maxRecDepth 4000

/-! ### The hoard: lists kept, each beside what it was -/
structure HoE where
  sl : SlV
  tw : SlV
  bs : List Int
def HoE.row (q : HoE) : Asn := RowV byteE 5 q.sl.v q.bs
def HoE.twin (q : HoE) : Asn := RowV byteE 5 q.tw.v q.bs
def hoL (p : Nat) (ents : List HoE) (x : Value × Value) : List Asn := [Blk p (.cells #[x.1, x.2] 31 (0, 0)), RowV slE 33 x.1 (ents.map HoE.sl), RowV slE 33 x.2 (ents.map HoE.tw), All (ents.map HoE.row), All (ents.map HoE.twin)]
def HoO (p : Nat) (ents : List HoE) : Asn := Ex fun x : Value × Value => All (hoL p ents x)
theorem HoO_open {p : Nat} {ents : List HoE} (w w0 : World) (F0 : Nat → Prop) (R : List Asn) (h : St w0 F0 (HoO p ents :: R) w) : ∃ x : Value × Value, St w0 F0 (hoL p ents x ++ R) w := by
  obtain ⟨x, hx⟩ := St.ex.1 h
  exact ⟨x, St.all.1 hx⟩
theorem HoO_shut {p : Nat} {ents : List HoE} (x : Value × Value) {w w0 : World} {F0 : Nat → Prop} {R : List Asn} (h : St w0 F0 (hoL p ents x ++ R) w) : St w0 F0 (HoO p ents :: R) w :=
  St.ex.2 ⟨x, St.all.2 h⟩
theorem HoO_new {p : Nat} {w w0 : World} {F0 : Nat → Prop} {R : List Asn} (h : St w0 F0 (Blk p (.cells #[.slice none 0 0, .slice none 0 0] 31 (0, 0)) :: R) w) : St w0 F0 (HoO p [] :: R) w := by
  have h1 : St w0 F0 (All [] :: All [] :: RowV slE 33 (.slice none 0 0) [] :: RowV slE 33 (.slice none 0 0) [] :: Blk p (.cells #[.slice none 0 0, .slice none 0 0] 31 (0, 0)) :: R) w := St.all.2 (St.all.2 (St.rowV_nil (St.rowV_nil h)))
  exact HoO_shut (.slice none 0 0, .slice none 0 0) (h1.pulls (.cons (.tail (.tail (.tail (.tail .head)))) (.cons (.tail (.tail (.tail .head))) (.cons (.tail (.tail .head)) (.cons (.tail .head) (.cons .head .nil))))))
theorem ho_rd {ents : List HoE} {k : Nat} {q : HoE} (hk : ents[k]? = some q) {G : HoE → Asn} {v : Value} (hG : G q = RowV byteE 5 v q.bs) {w w0 : World} {F0 : Nat → Prop} {L L' : List Asn} (h : St w0 F0 L w) (hp : Pull L (All (ents.map G)) L') : Rd byteE w v q.bs := by
  have h1 := shl_cons (shl_perm (M' := (q :: ents.eraseIdx k).map G) ((shl_erase hk).map G) (h.perm hp.perm))
  rw [hG] at h1
  exact h1.rdRowV .head
set_option maxHeartbeats 4000000 in
theorem hkeep_spec {p : Nat} {ents : List HoE} {sl : SlV} {bs : List Int} (hl : ents.length ≤ 1000) (hb : bs.length ≤ 1000) :
    Spec Try.prog 16 [.pointer (some ⟨p, 0, none⟩), sl.v] [HoO p ents, RowV byteE 5 sl.v bs] (fun u M => u = .tuple #[] ∧ ∃ tw, M = [HoO p (ents ++ [⟨sl, tw, bs⟩])]) := by
  refine spec_of Try.func16 rfl rfl (Nat.le_of_ble_eq_true rfl) (fun w F => ?_)
  refine hc_open .head HoO_open ?_
  rintro ⟨lv, wv⟩
  unfold hoL
  dsimp only
  have hl1 : (ents.map HoE.sl).length = ents.length := List.length_map _
  have hl2 : (ents.map HoE.tw).length = ents.length := List.length_map _
  (refine hc_seq ?_; refine hc_lex ?_; refine hx_plain rfl ?_; refine h_move rfl rfl rfl rfl ?_; refine hx_plain rfl ?_; refine h_move rfl rfl rfl rfl ?_; refine hx_plain rfl ?_; refine h_nilCheck rfl rfl rfl rfl ?_; refine hx_plain rfl ?_; refine h_fieldAddr0 rfl rfl FC.out rfl rfl ?_; refine hx_plain rfl ?_; refine h_load rfl rfl UC.out rfl .head rfl rfl rfl ?_; refine hx_plain rfl ?_; refine h_move rfl rfl rfl rfl ?_; refine hx_plain rfl ?_; (refine h_buildSliceW rfl rfl UC.out IC.size IC.zero rfl rfl (by intro v hv; simp at hv; first | (subst hv; rfl) | (rcases hv with rfl | rfl <;> rfl) | (rcases hv with rfl | rfl | rfl <;> rfl)) (by omega) rfl rfl (fun _ => ?_)); refine hx_plain rfl ?_)
  refine h_appendR (m := 1) (E := slE) (T := 33) (xs := ents.map HoE.sl) (ys := [sl]) rfl rfl rfl rfl rfl UC.out IC.out rfl (.cons (.tail (.tail .head)) (.cons .head .nil)) rfl rfl (one_row slE _) (by unfold maxLen; omega) (by omega) rfl rfl (fun g1 c1 => ?_)
  (refine hx_plain rfl ?_; refine h_nilCheck rfl rfl rfl rfl ?_; refine hx_plain rfl ?_; refine h_fieldAddr0 rfl rfl FC.out rfl rfl ?_; refine hx_plain rfl ?_; refine h_store rfl rfl rfl rfl rfl rfl IC.size (.tail (.tail .head)) rfl rfl (Nat.le_of_ble_eq_true rfl) (List.all_eq_true.1 rfl) ?_; refine hx_nil ?_; refine hq_then ?_)
  refine hc_drawO [0, 1, 2, 3, 4, 5, 6, 7, 8, 9, 10, 11] (fun i => Nat.beq i 6 || Nat.beq i 7) (by kernel_rfl) (by kernel_rfl) rfl ?_
  (refine hx_plain rfl ?_; refine h_move rfl rfl rfl rfl ?_; refine hx_plain rfl ?_; refine h_move rfl rfl rfl rfl ?_; refine hx_plain rfl ?_; refine h_nilCheck rfl rfl rfl rfl ?_; refine hx_plain rfl ?_; refine h_fieldAddr0 rfl rfl FC.out rfl rfl ?_; refine hx_plain rfl ?_; refine h_load rfl rfl UC.out rfl .head rfl rfl rfl ?_; refine hx_plain rfl ?_; refine h_move rfl rfl rfl rfl ?_; refine hx_plain rfl ?_)
  refine h_callWk (post := fun u M => ∃ s : SlV, u = s.v ∧ M = [RowV byteE 5 s.v bs]) rfl rfl rfl rfl rfl rfl rfl EC.out (fun w' h => (bytes_makes (St.rdRowV (v := sl.v) h (.tail (.tail (.tail (.tail (.tail (.tail .head))))))) (by omega)).slV) ?_
  rintro u M ⟨tw, rfl, rfl⟩
  (refine hx_plain rfl ?_; (refine h_buildSliceW rfl rfl UC.out IC.size IC.zero rfl rfl (by intro v hv; simp at hv; first | (subst hv; rfl) | (rcases hv with rfl | rfl <;> rfl) | (rcases hv with rfl | rfl | rfl <;> rfl)) (by omega) rfl rfl (fun _ => ?_)); refine hx_plain rfl ?_)
  refine h_appendR (m := 1) (E := slE) (T := 33) (xs := ents.map HoE.tw) (ys := [tw]) rfl rfl rfl rfl rfl UC.out IC.out rfl (.cons (.tail (.tail (.tail (.tail (.tail .head))))) (.cons .head .nil)) rfl rfl (one_row slE _) (by unfold maxLen; omega) (by omega) rfl rfl (fun g2 c2 => ?_)
  (refine hx_plain rfl ?_; refine h_nilCheck rfl rfl rfl rfl ?_; refine hx_plain rfl ?_; refine h_fieldAddr0 rfl rfl FC.out rfl rfl ?_; refine hx_plain rfl ?_; refine h_store rfl rfl rfl rfl rfl rfl IC.size (.tail (.tail (.tail .head))) rfl rfl (Nat.le_of_ble_eq_true rfl) (List.all_eq_true.1 rfl) ?_; refine hx_nil ?_)
  refine hq_ret0 (.inl rfl) rfl ⟨rfl, tw, rfl⟩ (fun w' h => ?_)
  have h1 := (h.pulls (M := [Row slE 33 g1 c1 _, Row slE 33 g2 c2 _]) (.cons (.tail (.tail (.tail (.tail .head)))) (.cons (.tail .head) .nil))).rowV_mk
  have h2 := (h1.perm (List.Perm.swap _ _ _)).rowV_mk
  have h3 := h2.sub (M := [All (ents.map HoE.row), RowV byteE 5 sl.v bs, All (ents.map HoE.twin), RowV byteE 5 tw.v bs, RowV slE 33 _ _, RowV slE 33 _ _, Blk p _]) (.cons (.tail (.tail (.tail (.tail (.tail (.tail .head)))))) (.cons (.tail (.tail (.tail (.tail (.tail (.tail (.tail .head))))))) (.cons (.tail (.tail (.tail (.tail (.tail (.tail .head)))))) (.cons (.tail (.tail (.tail (.tail .head)))) (.cons (.tail .head) (.cons .head (.cons .head .nil)))))))
  have h4 := shl_snoc h3
  have h5 := shl_snoc (h4.pulls (.cons (.tail .head) (.cons (.tail .head) .nil)))
  refine HoO_shut (.slice (some ⟨g1, 0, none⟩) (ents.map HoE.sl ++ [sl]).length c1, .slice (some ⟨g2, 0, none⟩) (ents.map HoE.tw ++ [tw]).length c2) (R := []) ?_
  unfold hoL
  rw [List.map_append, List.map_append, List.map_append, List.map_append]
  exact h5.sub (.cons (.tail (.tail (.tail (.tail .head)))) (.cons (.tail (.tail .head)) (.cons (.tail (.tail .head)) (.cons (.tail .head) (.cons .head .nil)))))
set_option maxHeartbeats 4000000 in
theorem hwhole_spec {p : Nat} {ents : List HoE} (hl : ents.length ≤ 1000) :
    Spec Try.prog 23 [.pointer (some ⟨p, 0, none⟩)] [HoO p ents] (fun u M => u = .bool true ∧ M = [HoO p ents]) := by
  refine spec_of Try.func23 rfl rfl (Nat.le_of_ble_eq_true rfl) (fun w F => ?_)
  refine hc_open .head HoO_open ?_
  rintro ⟨lv, wv⟩
  unfold hoL
  dsimp only
  have hl1 : (ents.map HoE.sl).length = ents.length := List.length_map _
  have hl2 : (ents.map HoE.tw).length = ents.length := List.length_map _
  refine hc_know (fun _ h => And.intro (St.rowV_shapeS h (.tail .head)) (St.rowV_shapeS h (.tail (.tail .head)))) ?_
  rw [hl1, hl2]
  rintro ⟨⟨a1, c1, rfl⟩, ⟨a2, c2, rfl⟩⟩
  (refine hc_seq ?_; refine hc_lex ?_; refine hx_plain rfl ?_; refine h_assign rfl rfl rfl rfl ?_; refine hx_nil ?_; refine hq_then ?_; refine hc_seq ?_; refine hc_seq ?_; refine hc_lex ?_; refine hx_plain rfl ?_; refine h_assign rfl rfl rfl rfl ?_; refine hx_nil ?_; refine hq_then ?_; refine hc_block ?_)
  refine hc_cut (id := 0) (Y := Unit) (fun _ => [(0, .pointer (some ⟨p, 0, none⟩))]) (fun _ => [Blk p (.cells #[.slice a1 ents.length c1, .slice a2 ents.length c2] 31 (0, 0)), RowV slE 33 (.slice a1 ents.length c1) (ents.map HoE.sl), RowV slE 33 (.slice a2 ents.length c2) (ents.map HoE.tw), All (ents.map HoE.row), All (ents.map HoE.twin)]) (fun _ => True) ?_ ?_
  · refine hc_loop (X := Nat) (fun i => [(0, .pointer (some ⟨p, 0, none⟩)), (3, .int .i64 (i : Int))]) (fun _ => [Blk p (.cells #[.slice a1 ents.length c1, .slice a2 ents.length c2] 31 (0, 0)), RowV slE 33 (.slice a1 ents.length c1) (ents.map HoE.sl), RowV slE 33 (.slice a2 ents.length c2) (ents.map HoE.tw), All (ents.map HoE.row), All (ents.map HoE.twin)]) (fun i => i ≤ ents.length) (fun i => ents.length - i) 0 (.cons rfl (.cons rfl .nil)) (Nat.zero_le _) (fun _ h => h) ?_
    intro i hi
    by_cases hlt : i < ents.length
    · obtain ⟨⟨s1, s2, bs⟩, hk⟩ : ∃ q, ents[i]? = some q := ⟨_, List.getElem?_eq_getElem hlt⟩
      have e1 : (ents.map HoE.sl)[((i : Nat) : Int).toNat]? = some s1 := by rw [List.getElem?_map]; show (ents[i]?).map _ = _; rw [hk]; rfl
      have e2 : (ents.map HoE.tw)[((i : Nat) : Int).toNat]? = some s2 := by rw [List.getElem?_map]; show (ents[i]?).map _ = _; rw [hk]; rfl
      refine hc_rowV (.tail .head) ?_ ?_
      · intro _ e
        rw [e] at hl1
        have h0 : 0 = ents.length := hl1
        omega
      rintro g1 d1 e
      rw [hl1] at e
      injection e with e1' e2' e3'
      subst e1' e3'
      refine hc_rowV (.tail (.tail .head)) ?_ ?_
      · intro _ e
        rw [e] at hl2
        have h0 : 0 = ents.length := hl2
        omega
      rintro g2 d2 e
      rw [hl2] at e
      injection e with e1' e2' e3'
      subst e1' e3'
      (refine hc_seq ?_; refine hc_seq ?_; refine hc_lex ?_; refine hx_plain rfl ?_; refine h_move rfl rfl rfl rfl ?_; refine hx_plain rfl ?_; refine h_move rfl rfl rfl rfl ?_; refine hx_plain rfl ?_; refine h_nilCheck rfl rfl rfl rfl ?_; refine hx_plain rfl ?_; refine h_fieldAddr0 rfl rfl FC.out rfl rfl ?_; refine hx_plain rfl ?_; refine h_load rfl rfl UC.out rfl (.tail (.tail .head)) rfl rfl rfl ?_; refine hx_plain rfl ?_; refine h_len_slice rfl rfl rfl UC.out rfl rfl rfl ?_; refine hx_plain rfl ?_; refine h_cmp rfl rfl rfl rfl rfl rfl ?_; refine hx_nil ?_; refine hq_then ?_; refine hc_condDT rfl (by omega) ?_; refine hc_skip ?_; refine hq_then ?_; refine hc_seq ?_; refine hc_block ?_; refine hc_seq ?_)
      refine hc_drawO [0, 1, 2, 3, 4, 5, 6, 7, 8, 9, 10, 11, 12, 13, 14, 15] (fun _ => false) (by kernel_rfl) (by kernel_rfl) rfl ?_
      (refine hx_plain rfl ?_; refine h_move rfl rfl rfl rfl ?_; refine hx_plain rfl ?_; refine h_nilCheck rfl rfl rfl rfl ?_; refine hx_plain rfl ?_; refine h_fieldAddr0 rfl rfl FC.out rfl rfl ?_; refine hx_plain rfl ?_; refine h_load rfl rfl UC.out rfl (.tail (.tail .head)) rfl rfl rfl ?_; refine hx_plain rfl ?_; refine h_move rfl rfl rfl rfl ?_; refine hx_plain rfl ?_; refine h_rowAddr rfl rfl rfl UC.out IC.size (by omega) (by omega) rfl rfl ?_; refine hx_plain rfl ?_; refine h_rowLoad1 rfl (.tail .head) rfl UC.out rfl (by with_reducible assumption) rfl rfl rfl ?_; refine hx_plain rfl ?_; refine h_move rfl rfl rfl rfl ?_; refine hx_plain rfl ?_; refine h_nilCheck rfl rfl rfl rfl ?_; refine hx_plain rfl ?_; refine h_fieldAddr0 rfl rfl FC.out rfl rfl ?_; refine hx_plain rfl ?_; refine h_load rfl rfl UC.out rfl (.tail (.tail .head)) rfl rfl rfl ?_; refine hx_plain rfl ?_; refine h_move rfl rfl rfl rfl ?_; refine hx_plain rfl ?_; refine h_rowAddr rfl rfl rfl UC.out IC.size (by omega) (by omega) rfl rfl ?_; refine hx_plain rfl ?_; refine h_rowLoad1 rfl .head rfl UC.out rfl (by with_reducible assumption) rfl rfl rfl ?_; refine hx_plain rfl ?_)
      refine h_callRd rfl rfl rfl rfl rfl rfl EC.out (fun w' h => sameBytes (ho_rd hk (G := HoE.row) rfl h (.tail (.tail (.tail .head)))) (ho_rd hk (G := HoE.twin) rfl h (.tail (.tail (.tail (.tail .head)))))) ?_
      rw [show decide (bs = bs) = true from decide_eq_true rfl]
      (refine hx_plain rfl ?_; refine h_assign rfl rfl rfl rfl ?_; refine hx_nil ?_; refine hq_then ?_; refine hc_seq ?_; refine hc_lex ?_; refine hx_plain rfl ?_; refine h_move rfl rfl rfl rfl ?_; refine hx_plain rfl ?_; refine h_not rfl rfl rfl rfl ?_; refine hx_nil ?_; refine hq_then ?_; refine hc_condF rfl ?_; refine hc_skip ?_; refine hq_norm_block ?_; refine hq_then ?_; refine hc_lex ?_; refine hx_plain rfl ?_; refine h_move rfl rfl rfl rfl ?_; refine hx_plain rfl ?_; refine h_arithI rfl rfl rfl rfl (by omega) rfl rfl ?_; refine hx_plain rfl ?_; refine h_assign rfl rfl rfl rfl ?_; refine hx_nil ?_)
      refine hq_round (i + 1) (by omega) (by omega) (.cons rfl (.cons rfl .nil)) (fun w' h => ?_)
      have h1 := (h.pulls (M := [Row slE 33 g1 _ _, Row slE 33 g2 _ _]) (.cons (.tail .head) (.cons .head .nil))).rowV_mk
      have h2 := (h1.perm (List.Perm.swap _ _ _)).rowV_mk
      rw [hl1, hl2] at h2
      exact h2.pulls (M := [_, _, _]) (.cons (.tail (.tail .head)) (.cons (.tail .head) (.cons .head .nil)))
    · (refine hc_seq ?_; refine hc_seq ?_; refine hc_lex ?_; refine hx_plain rfl ?_; refine h_move rfl rfl rfl rfl ?_; refine hx_plain rfl ?_; refine h_move rfl rfl rfl rfl ?_; refine hx_plain rfl ?_; refine h_nilCheck rfl rfl rfl rfl ?_; refine hx_plain rfl ?_; refine h_fieldAddr0 rfl rfl FC.out rfl rfl ?_; refine hx_plain rfl ?_; refine h_load rfl rfl UC.out rfl .head rfl rfl rfl ?_; refine hx_plain rfl ?_; refine h_len_slice rfl rfl rfl UC.out rfl rfl rfl ?_; refine hx_plain rfl ?_; refine h_cmp rfl rfl rfl rfl rfl rfl ?_; refine hx_nil ?_; refine hq_then ?_; refine hc_condDF rfl (by omega) ?_; refine hc_exit ?_; refine hq_exit_then ?_; refine hq_exit_then ?_)
      exact hq_cut () trivial (.cons rfl .nil) (fun _ h => h)
  · rintro ⟨⟩ _
    (refine hq_exit_block ?_; refine hq_then ?_; refine hc_seq ?_; refine hc_lex ?_; refine hx_plain rfl ?_; refine h_assign rfl rfl rfl rfl ?_; refine hx_nil ?_; refine hq_then ?_; refine hc_ret ?_)
    exact hq_ret1 (.inr rfl) rfl rfl ⟨rfl, rfl⟩ (fun _ h => HoO_shut (_, _) (R := []) h)
end Go.Proofs.Ytbfmmgbfliebhaa
