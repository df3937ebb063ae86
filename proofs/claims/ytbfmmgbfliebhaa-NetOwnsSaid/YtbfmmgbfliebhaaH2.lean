import Derived.Test.YtbfmmgbfliebhaaH1
namespace Go.Proofs.Ytbfmmgbfliebhaa
open Go Go.Proofs Go.RowKit
set_option maxRecDepth 4000

/-- The mark of the i-th list. -/
abbrev mkB (i : Nat) : Int := IntKind.u8.wrap (1 + (i : Int) % 250)
/-- The first j of a list overwritten by m. -/
def fiH (m : Int) (xs : List Int) (j : Nat) : List Int := List.replicate j m ++ xs.drop j
theorem fiH_len {m : Int} {xs : List Int} {j : Nat} (h : j ≤ xs.length) : (fiH m xs j).length = xs.length := by
  unfold fiH
  rw [List.length_append, List.length_replicate, List.length_drop]
  omega
theorem fiH_get {m : Int} {xs : List Int} {j : Nat} (h : j < xs.length) : (fiH m xs j)[j]? = some xs[j] := by
  unfold fiH
  rw [List.getElem?_append_right (by rw [List.length_replicate]; exact Nat.le_refl _), List.length_replicate, Nat.sub_self, List.getElem?_drop, Nat.add_zero, List.getElem?_eq_getElem h]
theorem fiH_set {m : Int} {xs : List Int} {j : Nat} (h : j < xs.length) : (fiH m xs j).set j m = fiH m xs (j + 1) := by
  unfold fiH
  rw [List.set_append_right _ _ (by rw [List.length_replicate]; exact Nat.le_refl _), List.length_replicate, Nat.sub_self, List.drop_eq_getElem_cons h, List.set_cons_zero, List.replicate_succ', List.append_assoc]
  rfl
theorem fiH_all {m : Int} {xs : List Int} {j : Nat} (h : xs.length ≤ j) (h2 : j ≤ xs.length) : fiH m xs j = List.replicate xs.length m := by
  obtain rfl : j = xs.length := by omega
  unfold fiH
  rw [List.drop_length, List.append_nil]
/-- A list of the hoard as the second part sees it. -/
def rwB (q : SlV × List Int) : Asn := RowV byteE 5 q.1.v q.2
theorem shB_open {ls : List (SlV × List Int)} {i : Nat} {q : SlV × List Int} (hk : ls[i]? = some q) {w w0 : World} {F0 : Nat → Prop} {R : List Asn} (h : St w0 F0 (All (ls.map rwB) :: R) w) : St w0 F0 (rwB q :: All ((ls.eraseIdx i).map rwB) :: R) w :=
  shl_cons (shl_perm (M' := (q :: ls.eraseIdx i).map rwB) ((shl_erase hk).map rwB) h)
theorem set_erase {α : Type} : ∀ (l : List α) (k : Nat) (a : α), (l.set k a).eraseIdx k = l.eraseIdx k
  | [], _, _ => rfl
  | _ :: _, 0, _ => rfl
  | b :: l, k + 1, a => by rw [List.set_cons_succ, List.eraseIdx_cons_succ, List.eraseIdx_cons_succ, set_erase l k a]
theorem shB_put {ls : List (SlV × List Int)} {i : Nat} {q q' : SlV × List Int} (hk : ls[i]? = some q) {w w0 : World} {F0 : Nat → Prop} {R : List Asn} (h : St w0 F0 (rwB q' :: All ((ls.eraseIdx i).map rwB) :: R) w) : St w0 F0 (All ((ls.set i q').map rwB) :: R) w := by
  have hl := (List.getElem?_eq_some_iff.1 hk).1
  have hk2 : (ls.set i q')[i]? = some q' := by rw [List.getElem?_set, if_pos rfl, if_pos hl]
  refine shl_perm (M := (q' :: (ls.set i q').eraseIdx i).map rwB) (((shl_erase hk2).map rwB).symm) (shl_mk ?_)
  rw [set_erase]
  exact h
/-- What the lists are behind the first i rounds. -/
structure ApI (sls : List SlV) (i : Nat) (ls : List (SlV × List Int)) : Prop where
  le : i ≤ sls.length
  sl : ls.map (·.1) = sls
  mkd : ∀ k q, k < i → ls[k]? = some q → q.2 = List.replicate q.2.length (mkB k)
  sh : ∀ q ∈ ls, q.2.length ≤ 1000
theorem ApI.len {sls : List SlV} {i : Nat} {ls : List (SlV × List Int)} (h : ApI sls i ls) : ls.length = sls.length := by rw [← h.sl, List.length_map]
theorem ApI.step {sls : List SlV} {i : Nat} {ls : List (SlV × List Int)} (h : ApI sls i ls) {q : SlV × List Int} (hk : ls[i]? = some q) : ApI sls (i + 1) (ls.set i (q.1, List.replicate q.2.length (mkB i))) := by
  have hi := (List.getElem?_eq_some_iff.1 hk).1
  refine ⟨by rw [← h.len]; exact hi, ?_, fun k q' hk' hq' => ?_, fun q' hq' => ?_⟩
  · rw [List.map_set, h.sl]
    apply List.ext_getElem?
    intro j
    rw [List.getElem?_set]
    split
    · rename_i e
      subst e
      rw [if_pos (by rw [← h.len]; exact hi), ← h.sl, List.getElem?_map, hk]
      rfl
    · rfl
  · rw [List.getElem?_set] at hq'
    split at hq'
    · rename_i e
      subst e
      injection hq' with hq'
      subst hq'
      dsimp only
      rw [List.length_replicate]
    · exact h.mkd k q' (by omega) hq'
  · rcases List.mem_or_eq_of_mem_set hq' with hq' | rfl
    · exact h.sh q' hq'
    · dsimp only
      rw [List.length_replicate]
      exact h.sh q (List.mem_iff_getElem?.2 ⟨i, hk⟩)
/-- What was handed out in the second part. -/
structure ApJ (ls : List (SlV × List Int)) (i : Nat) (hs : List (Value × List Int)) (fs : List SlV) : Prop where
  le : i ≤ ls.length
  fl : fs.length = i
  at_ : ∀ k q f, ls[k]? = some q → fs[k]? = some f → (q.1.v, List.replicate q.2.length (mkB k)) ∈ hs ∧ (f.v, List.replicate (q.2.length + 600) (mkB k)) ∈ hs
theorem ApJ.step {ls : List (SlV × List Int)} {i : Nat} {hs : List (Value × List Int)} {fs : List SlV} (h : ApJ ls i hs fs) {q : SlV × List Int} (hk : ls[i]? = some q) (f : SlV) : ApJ ls (i + 1) (hs ++ [(q.1.v, List.replicate q.2.length (mkB i)), (f.v, List.replicate (q.2.length + 600) (mkB i))]) (fs ++ [f]) := by
  refine ⟨(List.getElem?_eq_some_iff.1 hk).1, by rw [List.length_append, h.fl]; rfl, fun k q' f' hq' hf' => ?_⟩
  rcases Nat.lt_or_ge k i with hlt | hge
  · rw [List.getElem?_append_left (by rw [h.fl]; exact hlt)] at hf'
    obtain ⟨h1, h2⟩ := h.at_ k q' f' hq' hf'
    exact ⟨List.mem_append_left _ h1, List.mem_append_left _ h2⟩
  · have hki : k = i := by
      have := (List.getElem?_eq_some_iff.1 hf').1
      rw [List.length_append, h.fl] at this
      have h0 : k < i + 1 := this
      omega
    subst hki
    rw [List.getElem?_append_right (by rw [h.fl]; exact Nat.le_refl _), h.fl, Nat.sub_self] at hf'
    injection hf' with hf'
    subst hf'
    rw [hk] at hq'
    injection hq' with hq'
    subst hq'
    exact ⟨List.mem_append_right _ (.head _), List.mem_append_right _ (.tail _ (.head _))⟩
-- <A>
set_option maxHeartbeats 8000000 in
theorem hapart_spec {p : Nat} {ents : List HoE} (hl : ents.length ≤ 1000) (hb : ∀ q ∈ ents, q.bs.length ≤ 1000) :
    Spec Try.prog 24 [.pointer (some ⟨p, 0, none⟩)] [HoO p ents] (fun u M => u = .bool true ∧ M = []) := by
  refine spec_of Try.func24 rfl rfl (Nat.le_of_ble_eq_true rfl) (fun w F => ?_)
  refine hc_open .head HoO_open ?_
  rintro ⟨lv, wv⟩
  unfold hoL
  dsimp only
  obtain ⟨sls, hsl⟩ : ∃ sls, sls = ents.map HoE.sl := ⟨_, rfl⟩
  obtain ⟨ls0, hls⟩ : ∃ ls0 : List (SlV × List Int), ls0 = ents.map fun q => (q.sl, q.bs) := ⟨_, rfl⟩
  have hI0 : ApI sls 0 ls0 := by
    subst hsl hls
    refine ⟨Nat.zero_le _, by rw [List.map_map]; rfl, fun k q hk => absurd hk (Nat.not_lt_zero _), fun q hq => ?_⟩
    obtain ⟨q', hq', rfl⟩ := List.mem_map.1 hq
    exact hb q' hq'
  have hn : sls.length ≤ 1000 := by rw [hsl, List.length_map]; exact hl
  rw [show ents.map HoE.row = ls0.map rwB by rw [hls, List.map_map]; rfl, ← hsl]
  clear hsl hls hb hl
  refine hc_know (fun _ h => St.rowV_shapeS h (.tail .head)) ?_
  rintro ⟨a1, c1, rfl⟩
  refine hc_st (C' := St w F [Blk p (.cells #[.slice a1 sls.length c1, wv] 31 (0, 0)), RowV slE 33 (.slice a1 sls.length c1) sls, All (ls0.map rwB)]) (fun _ h => h.sub (.cons .head (.cons .head (.cons (.tail .head) .nil)))) ?_
  (refine hc_seq ?_; refine hc_lex ?_; refine hx_plain rfl ?_; refine h_assign rfl rfl rfl rfl ?_; refine hx_nil ?_; refine hq_then ?_; refine hc_seq ?_; refine hc_lex ?_; refine hx_plain rfl ?_; refine h_assign rfl rfl rfl rfl ?_; refine hx_nil ?_; refine hq_then ?_; refine hc_seq ?_; refine hc_seq ?_; refine hc_lex ?_; refine hx_plain rfl ?_; refine h_assign rfl rfl rfl rfl ?_; refine hx_nil ?_; refine hq_then ?_; refine hc_block ?_)
  refine hc_cut (id := 0) (Y := List (SlV × List Int)) (fun _ => [(0, .pointer (some ⟨p, 0, none⟩)), (3, .slice none 0 0)]) (fun ls => [Blk p (.cells #[.slice a1 sls.length c1, wv] 31 (0, 0)), RowV slE 33 (.slice a1 sls.length c1) sls, All (ls.map rwB)]) (fun ls => ApI sls sls.length ls) ?_ ?_
  · refine hc_loop (X := Nat × List (SlV × List Int)) (fun x => [(0, .pointer (some ⟨p, 0, none⟩)), (3, .slice none 0 0), (4, .int .i64 (x.1 : Int))]) (fun x => [Blk p (.cells #[.slice a1 sls.length c1, wv] 31 (0, 0)), RowV slE 33 (.slice a1 sls.length c1) sls, All (x.2.map rwB)]) (fun x => ApI sls x.1 x.2) (fun x => sls.length - x.1) (0, ls0) (.cons rfl (.cons rfl (.cons rfl .nil))) hI0 (fun _ h => h) ?_
    rintro ⟨i, ls⟩ hI
    dsimp only at hI ⊢
    have hi := hI.le
    by_cases hlt : i < sls.length
    · obtain ⟨⟨⟨sa, sn, sc⟩, bs⟩, hk⟩ : ∃ q, ls[i]? = some q := ⟨_, List.getElem?_eq_getElem (by rw [hI.len]; exact hlt)⟩
      have e1 : sls[((i : Nat) : Int).toNat]? = some ⟨sa, sn, sc⟩ := by rw [← hI.sl, List.getElem?_map]; show (ls[i]?).map _ = _; rw [hk]; rfl
      have hbl : bs.length ≤ 1000 := hI.sh _ (List.mem_iff_getElem?.2 ⟨i, hk⟩)
      refine hc_rowV (.tail .head) ?_ ?_
      · intro _ e
        rw [e] at hlt
        exact absurd hlt (Nat.not_lt_zero _)
      rintro g1 d1 e
      injection e with e1' e2' e3'
      subst e1' e3'
      refine hc_st (C' := St w F [RowV byteE 5 (.slice sa sn sc) bs, All ((ls.eraseIdx i).map rwB), Row slE 33 g1 c1 sls, Blk p (.cells #[.slice (some ⟨g1, 0, none⟩) sls.length c1, wv] 31 (0, 0))]) (fun _ h => shB_open hk (h.pulls (M := [_, _, _]) (.cons (.tail (.tail .head)) (.cons .head (.cons .head .nil))))) ?_
      refine hc_know (fun _ h => St.rowV_shapeS h .head) ?_
      rintro ⟨a3, c3, e⟩
      injection e with e1' e2' e3'
      subst e1' e2' e3'
      (refine hc_seq ?_; refine hc_seq ?_; refine hc_lex ?_; refine hx_plain rfl ?_; refine h_move rfl rfl rfl rfl ?_; refine hx_plain rfl ?_; refine h_move rfl rfl rfl rfl ?_; refine hx_plain rfl ?_; refine h_nilCheck rfl rfl rfl rfl ?_; refine hx_plain rfl ?_; refine h_fieldAddr0 rfl rfl FC.out rfl rfl ?_; refine hx_plain rfl ?_; refine h_load rfl rfl UC.out rfl (.tail (.tail (.tail .head))) rfl rfl rfl ?_; refine hx_plain rfl ?_; refine h_len_slice rfl rfl rfl UC.out rfl rfl rfl ?_; refine hx_plain rfl ?_; refine h_cmp rfl rfl rfl rfl rfl rfl ?_; refine hx_nil ?_; refine hq_then ?_; refine hc_condDT rfl (by first | omega | (dsimp only; omega)) ?_; refine hc_skip ?_; refine hq_then ?_; refine hc_seq ?_; refine hc_block ?_; refine hc_seq ?_; refine hc_lex ?_; refine hx_plain rfl ?_; refine h_assign rfl rfl rfl rfl ?_; refine hx_nil ?_; refine hq_then ?_; refine hc_block ?_)
      refine hc_cut (id := 2) (Y := Unit) (fun _ => [(0, .pointer (some ⟨p, 0, none⟩)), (3, .slice none 0 0), (4, .int .i64 (i : Int))]) (fun _ => [RowV byteE 5 (.slice sa bs.length sc) (List.replicate bs.length (mkB i)), All ((ls.eraseIdx i).map rwB), Row slE 33 g1 c1 sls, Blk p (.cells #[.slice (some ⟨g1, 0, none⟩) sls.length c1, wv] 31 (0, 0))]) (fun _ => True) ?_ ?_
      · refine hc_loop (X := Nat) (fun j => [(0, .pointer (some ⟨p, 0, none⟩)), (3, .slice none 0 0), (4, .int .i64 (i : Int)), (5, .int .i64 (j : Int))]) (fun j => [RowV byteE 5 (.slice sa bs.length sc) (fiH (mkB i) bs j), All ((ls.eraseIdx i).map rwB), Row slE 33 g1 c1 sls, Blk p (.cells #[.slice (some ⟨g1, 0, none⟩) sls.length c1, wv] 31 (0, 0))]) (fun j => j ≤ bs.length) (fun j => bs.length - j) 0 (.cons rfl (.cons rfl (.cons rfl (.cons rfl .nil)))) (Nat.zero_le _) (fun _ h => h) ?_
        intro j hj
        by_cases hjl : j < bs.length
        · refine hc_rowV .head ?_ ?_
          · intro _ e
            have := congrArg List.length e
            rw [fiH_len hj] at this
            have h0 : bs.length = 0 := this
            omega
          rintro g3 d3 e
          rw [fiH_len hj] at e
          injection e with e1' e2' e3'
          subst e1' e3'
          have e3 : (fiH (mkB i) bs j)[((j : Nat) : Int).toNat]? = some bs[j] := fiH_get hjl
          (refine hc_seq ?_; refine hc_seq ?_; refine hc_lex ?_; refine hx_plain rfl ?_; refine h_move rfl rfl rfl rfl ?_; refine hx_plain rfl ?_; refine h_move rfl rfl rfl rfl ?_; refine hx_plain rfl ?_; refine h_nilCheck rfl rfl rfl rfl ?_; refine hx_plain rfl ?_; refine h_fieldAddr0 rfl rfl FC.out rfl rfl ?_; refine hx_plain rfl ?_; refine h_load rfl rfl UC.out rfl (.tail (.tail (.tail .head))) rfl rfl rfl ?_; refine hx_plain rfl ?_; refine h_move rfl rfl rfl rfl ?_; refine hx_plain rfl ?_; refine h_rowAddr rfl rfl rfl UC.out IC.size (by first | omega | (dsimp only; omega)) (by first | omega | (dsimp only; omega)) rfl rfl ?_; refine hx_plain rfl ?_; refine h_rowLoad1 rfl (.tail (.tail .head)) rfl UC.out rfl (by with_reducible assumption) rfl rfl rfl ?_; refine hx_plain rfl ?_; refine h_len_slice rfl rfl rfl UC.out rfl rfl rfl ?_; refine hx_plain rfl ?_; refine h_cmp rfl rfl rfl rfl rfl rfl ?_; refine hx_nil ?_; refine hq_then ?_; refine hc_condDT rfl (by first | omega | (dsimp only; omega)) ?_; refine hc_skip ?_; refine hq_then ?_; refine hc_seq ?_; refine hc_block ?_; refine hc_lex ?_; refine hx_plain rfl ?_; refine h_move rfl rfl rfl rfl ?_; refine hx_plain rfl ?_; refine h_nilCheck rfl rfl rfl rfl ?_; refine hx_plain rfl ?_; refine h_fieldAddr0 rfl rfl FC.out rfl rfl ?_; refine hx_plain rfl ?_; refine h_load rfl rfl UC.out rfl (.tail (.tail (.tail .head))) rfl rfl rfl ?_; refine hx_plain rfl ?_; refine h_move rfl rfl rfl rfl ?_; refine hx_plain rfl ?_; refine h_rowAddr rfl rfl rfl UC.out IC.size (by first | omega | (dsimp only; omega)) (by first | omega | (dsimp only; omega)) rfl rfl ?_; refine hx_plain rfl ?_; refine h_rowLoad1 rfl (.tail (.tail .head)) rfl UC.out rfl (by with_reducible assumption) rfl rfl rfl ?_; refine hx_plain rfl ?_; refine h_move rfl rfl rfl rfl ?_; refine hx_plain rfl ?_; refine h_move rfl rfl rfl rfl ?_; refine hx_plain rfl ?_; refine h_remI rfl rfl rfl (by first | omega | (dsimp only; omega)) rfl rfl ?_; refine hx_plain rfl ?_; refine h_arithI rfl rfl rfl rfl (by first | omega | (dsimp only; omega)) rfl rfl ?_; refine hx_plain rfl ?_; refine h_convInt rfl rfl UC.out UC.out rfl rfl ?_; refine hx_plain rfl ?_; refine h_rowAddr rfl rfl rfl UC.out IC.size (by first | omega | (dsimp only; omega)) (by first | omega | (dsimp only; omega)) rfl rfl ?_; refine hx_plain rfl ?_)
          refine h_rowStoreN (z := mkB i) rfl rfl rfl .head rfl rfl rfl IC.size e3 rfl rfl ?_
          (refine hx_nil ?_; refine hq_norm_block ?_; refine hq_then ?_; refine hc_lex ?_; refine hx_plain rfl ?_; refine h_move rfl rfl rfl rfl ?_; refine hx_plain rfl ?_; refine h_arithI rfl rfl rfl rfl (by first | omega | (dsimp only; omega)) rfl rfl ?_; refine hx_plain rfl ?_; refine h_assign rfl rfl rfl rfl ?_; refine hx_nil ?_)
          refine hq_round (j + 1) (by omega) (by omega) (.cons rfl (.cons rfl (.cons rfl (.cons rfl .nil)))) (fun _ h => ?_)
          have h2 : fiH (mkB i) bs (j + 1) = (fiH (mkB i) bs j).set j (mkB i) := (fiH_set hjl).symm
          rw [h2]
          have h3 := (show St _ _ (Row byteE 5 g3 sc ((fiH (mkB i) bs j).set j (mkB i)) :: _) _ from h).rowV_mk
          rw [List.length_set, fiH_len hj] at h3
          exact h3
        · rw [fiH_all (by omega) hj]
          (refine hc_seq ?_; refine hc_seq ?_; refine hc_lex ?_; refine hx_plain rfl ?_; refine h_move rfl rfl rfl rfl ?_; refine hx_plain rfl ?_; refine h_move rfl rfl rfl rfl ?_; refine hx_plain rfl ?_; refine h_nilCheck rfl rfl rfl rfl ?_; refine hx_plain rfl ?_; refine h_fieldAddr0 rfl rfl FC.out rfl rfl ?_; refine hx_plain rfl ?_; refine h_load rfl rfl UC.out rfl (.tail (.tail (.tail .head))) rfl rfl rfl ?_; refine hx_plain rfl ?_; refine h_move rfl rfl rfl rfl ?_; refine hx_plain rfl ?_; refine h_rowAddr rfl rfl rfl UC.out IC.size (by first | omega | (dsimp only; omega)) (by first | omega | (dsimp only; omega)) rfl rfl ?_; refine hx_plain rfl ?_; refine h_rowLoad1 rfl (.tail (.tail .head)) rfl UC.out rfl (by with_reducible assumption) rfl rfl rfl ?_; refine hx_plain rfl ?_; refine h_len_slice rfl rfl rfl UC.out rfl rfl rfl ?_; refine hx_plain rfl ?_; refine h_cmp rfl rfl rfl rfl rfl rfl ?_; refine hx_nil ?_; refine hq_then ?_; refine hc_condDF rfl (by first | omega | (dsimp only; omega)) ?_; refine hc_exit ?_; refine hq_exit_then ?_; refine hq_exit_then ?_)
          exact hq_cut () trivial (.cons rfl (.cons rfl (.cons rfl .nil))) (fun _ h => h)
      · rintro ⟨⟩ _
        (refine hq_exit_block ?_; refine hq_norm_block ?_; refine hq_then ?_; refine hc_lex ?_; refine hx_plain rfl ?_; refine h_move rfl rfl rfl rfl ?_; refine hx_plain rfl ?_; refine h_arithI rfl rfl rfl rfl (by first | omega | (dsimp only; omega)) rfl rfl ?_; refine hx_plain rfl ?_; refine h_assign rfl rfl rfl rfl ?_; refine hx_nil ?_)
        refine hq_round (i + 1, ls.set i (⟨sa, bs.length, sc⟩, List.replicate bs.length (mkB i))) (by show sls.length - (i + 1) < sls.length - i; omega) (hI.step hk) (.cons rfl (.cons rfl (.cons rfl .nil))) (fun w' h => ?_)
        have h1 := (shB_put (q' := (⟨sa, bs.length, sc⟩, List.replicate bs.length (mkB i))) hk h)
        have h2 := (h1.perm (List.Perm.swap _ _ _)).rowV_mk
        exact h2.pulls (M := [_, _, _]) (.cons (.tail (.tail .head)) (.cons .head (.cons .head .nil)))
    · (refine hc_seq ?_; refine hc_seq ?_; refine hc_lex ?_; refine hx_plain rfl ?_; refine h_move rfl rfl rfl rfl ?_; refine hx_plain rfl ?_; refine h_move rfl rfl rfl rfl ?_; refine hx_plain rfl ?_; refine h_nilCheck rfl rfl rfl rfl ?_; refine hx_plain rfl ?_; refine h_fieldAddr0 rfl rfl FC.out rfl rfl ?_; refine hx_plain rfl ?_; refine h_load rfl rfl UC.out rfl .head rfl rfl rfl ?_; refine hx_plain rfl ?_; refine h_len_slice rfl rfl rfl UC.out rfl rfl rfl ?_; refine hx_plain rfl ?_; refine h_cmp rfl rfl rfl rfl rfl rfl ?_; refine hx_nil ?_; refine hq_then ?_; refine hc_condDF rfl (by first | omega | (dsimp only; omega)) ?_; refine hc_exit ?_; refine hq_exit_then ?_; refine hq_exit_then ?_)
      obtain rfl : i = sls.length := by omega
      exact hq_cut ls hI (.cons rfl (.cons rfl .nil)) (fun _ h => h)
  intro ls hI
  have hll := hI.len
  (refine hq_exit_block ?_; refine hq_then ?_; refine hc_seq ?_; refine hc_seq ?_; refine hc_lex ?_; refine hx_plain rfl ?_; refine h_assign rfl rfl rfl rfl ?_; refine hx_nil ?_; refine hq_then ?_; refine hc_block ?_)
  refine hc_cut (id := 4) (Y := List (Value × List Int) × List SlV × Value) (fun y => [(0, .pointer (some ⟨p, 0, none⟩)), (3, y.2.2)]) (fun y => [Blk p (.cells #[.slice a1 sls.length c1, wv] 31 (0, 0)), RowV slE 33 (.slice a1 sls.length c1) sls, Holds byteE y.1, RowV slE 33 y.2.2 y.2.1]) (fun y => ApJ ls sls.length y.1 y.2.1) ?_ ?_
  · refine hc_loop (X := Nat × List (Value × List Int) × List SlV × Value) (fun x => [(0, .pointer (some ⟨p, 0, none⟩)), (3, x.2.2.2), (6, .int .i64 (x.1 : Int))]) (fun x => [Blk p (.cells #[.slice a1 sls.length c1, wv] 31 (0, 0)), RowV slE 33 (.slice a1 sls.length c1) sls, All ((ls.drop x.1).map rwB), Holds byteE x.2.1, RowV slE 33 x.2.2.2 x.2.2.1]) (fun x => ApJ ls x.1 x.2.1 x.2.2.1) (fun x => sls.length - x.1) (0, [], [], .slice none 0 0) (.cons rfl (.cons rfl (.cons rfl .nil))) ⟨Nat.zero_le _, rfl, fun k q f _ hf => (by cases hf)⟩ (fun w' h => ?_) ?_
    · have h1 := St.rowV_nil (E := slE) (T := 33) (St.holds_nil (E := byteE) h)
      exact h1.pulls (M := [_, _, _, _, _]) (.cons (.tail (.tail .head)) (.cons (.tail (.tail .head)) (.cons (.tail (.tail .head)) (.cons (.tail .head) (.cons .head .nil)))))
    rintro ⟨i, hs, fs, fv⟩ hJ
    dsimp only at hJ ⊢
    have hi := hJ.le
    have hfl := hJ.fl
    by_cases hlt : i < sls.length
    · obtain ⟨⟨⟨sa, sn, sc⟩, bs⟩, hk⟩ : ∃ q, ls[i]? = some q := ⟨_, List.getElem?_eq_getElem (by rw [hI.len]; exact hlt)⟩
      have e1 : sls[((i : Nat) : Int).toNat]? = some ⟨sa, sn, sc⟩ := by rw [← hI.sl, List.getElem?_map]; show (ls[i]?).map _ = _; rw [hk]; rfl
      have hbl : bs.length ≤ 1000 := hI.sh _ (List.mem_iff_getElem?.2 ⟨i, hk⟩)
      have hbs : bs = List.replicate bs.length (mkB i) := hI.mkd i _ hlt hk
      refine hc_rowV (.tail .head) ?_ ?_
      · intro _ e
        rw [e] at hlt
        exact absurd hlt (Nat.not_lt_zero _)
      rintro g1 d1 e
      injection e with e1' e2' e3'
      subst e1' e3'
      have hd : ls.drop i = (⟨sa, sn, sc⟩, bs) :: ls.drop (i + 1) := by
        rw [List.drop_eq_getElem_cons (by rw [hI.len]; exact hlt)]
        congr 1
        exact (List.getElem?_eq_some_iff.1 hk).2
      refine hc_st (C' := St w F [Pool byteE 5 (fun _ => mkB i) [(.slice sa sn sc, bs.length)], All ((ls.drop (i + 1)).map rwB), Row slE 33 g1 c1 sls, Blk p (.cells #[.slice (some ⟨g1, 0, none⟩) sls.length c1, wv] 31 (0, 0)), Holds byteE hs, RowV slE 33 fv fs]) (fun w' h => ?_) ?_
      · rw [hd] at h
        have h1 := shl_cons (h.pulls (M := [_, _, _, _, _]) (.cons (.tail (.tail .head)) (.cons .head (.cons .head (.cons .head (.cons .head .nil))))))
        have h2 : St w F (RowV byteE 5 (.slice sa sn sc) bs :: _) w' := h1
        rw [hbs, ← Seq.const] at h2
        have h3 := St.pool h2
        exact h3
      (refine hc_seq ?_; refine hc_seq ?_; refine hc_lex ?_; refine hx_plain rfl ?_; refine h_move rfl rfl rfl rfl ?_; refine hx_plain rfl ?_; refine h_move rfl rfl rfl rfl ?_; refine hx_plain rfl ?_; refine h_nilCheck rfl rfl rfl rfl ?_; refine hx_plain rfl ?_; refine h_fieldAddr0 rfl rfl FC.out rfl rfl ?_; refine hx_plain rfl ?_; refine h_load rfl rfl UC.out rfl (.tail (.tail (.tail .head))) rfl rfl rfl ?_; refine hx_plain rfl ?_; refine h_len_slice rfl rfl rfl UC.out rfl rfl rfl ?_; refine hx_plain rfl ?_; refine h_cmp rfl rfl rfl rfl rfl rfl ?_; refine hx_nil ?_; refine hq_then ?_; refine hc_condDT rfl (by first | omega | (dsimp only; omega)) ?_; refine hc_skip ?_; refine hq_then ?_; refine hc_seq ?_; refine hc_block ?_; refine hc_seq ?_; refine hc_lex ?_; refine hx_plain rfl ?_; refine h_move rfl rfl rfl rfl ?_; refine hx_plain rfl ?_; refine h_nilCheck rfl rfl rfl rfl ?_; refine hx_plain rfl ?_; refine h_fieldAddr0 rfl rfl FC.out rfl rfl ?_; refine hx_plain rfl ?_; refine h_load rfl rfl UC.out rfl (.tail (.tail (.tail .head))) rfl rfl rfl ?_; refine hx_plain rfl ?_; refine h_move rfl rfl rfl rfl ?_; refine hx_plain rfl ?_; refine h_rowAddr rfl rfl rfl UC.out IC.size (by first | omega | (dsimp only; omega)) (by first | omega | (dsimp only; omega)) rfl rfl ?_; refine hx_plain rfl ?_; refine h_rowLoad1 rfl (.tail (.tail .head)) rfl UC.out rfl (by with_reducible assumption) rfl rfl rfl ?_; refine hx_plain rfl ?_; refine h_assign rfl rfl rfl rfl ?_; refine hx_nil ?_; refine hq_then ?_; refine hc_seq ?_; refine hc_seq ?_; refine hc_lex ?_; refine hx_plain rfl ?_; refine h_assign rfl rfl rfl rfl ?_; refine hx_nil ?_; refine hq_then ?_; refine hc_block ?_)
      refine hc_cut (id := 6) (Y := Value) (fun v2 => [(0, .pointer (some ⟨p, 0, none⟩)), (3, fv), (6, .int .i64 (i : Int)), (7, v2)]) (fun v2 => [Pool byteE 5 (fun _ => mkB i) [(.slice sa sn sc, bs.length), (v2, bs.length + 600)], All ((ls.drop (i + 1)).map rwB), Row slE 33 g1 c1 sls, Blk p (.cells #[.slice (some ⟨g1, 0, none⟩) sls.length c1, wv] 31 (0, 0)), Holds byteE hs, RowV slE 33 fv fs]) (fun _ => True) ?_ ?_
      · refine hc_loop (X := Nat × Value) (fun x => [(0, .pointer (some ⟨p, 0, none⟩)), (3, fv), (6, .int .i64 (i : Int)), (7, x.2), (8, .int .i64 (x.1 : Int))]) (fun x => [Pool byteE 5 (fun _ => mkB i) [(.slice sa sn sc, bs.length), (x.2, bs.length + x.1)], All ((ls.drop (i + 1)).map rwB), Row slE 33 g1 c1 sls, Blk p (.cells #[.slice (some ⟨g1, 0, none⟩) sls.length c1, wv] 31 (0, 0)), Holds byteE hs, RowV slE 33 fv fs]) (fun x => x.1 ≤ 600) (fun x => 600 - x.1) (0, .slice sa sn sc) (.cons rfl (.cons rfl (.cons rfl (.cons rfl (.cons rfl .nil))))) (Nat.zero_le _) (fun w' h => ?_) ?_
        · refine St.pool_sub (ents := [(.slice sa sn sc, bs.length)]) ?_ h
          intro q hq
          simp at hq ⊢
          exact hq
        rintro ⟨j, v2⟩ hj
        dsimp only at hj ⊢
        by_cases hlt : j < 600
        · (refine hc_seq ?_; refine hc_seq ?_; refine hc_lex ?_; refine hx_plain rfl ?_; refine h_move rfl rfl rfl rfl ?_; refine hx_plain rfl ?_; refine h_cmp rfl rfl rfl rfl rfl rfl ?_; refine hx_nil ?_; refine hq_then ?_; refine hc_condDT rfl (by first | omega | (dsimp only; omega)) ?_; refine hc_skip ?_; refine hq_then ?_; refine hc_seq ?_; refine hc_block ?_; refine hc_lex ?_; refine hx_plain rfl ?_; refine h_move rfl rfl rfl rfl ?_; refine hx_plain rfl ?_; refine h_move rfl rfl rfl rfl ?_; refine hx_plain rfl ?_; refine h_remI rfl rfl rfl (by first | omega | (dsimp only; omega)) rfl rfl ?_; refine hx_plain rfl ?_; refine h_arithI rfl rfl rfl rfl (by first | omega | (dsimp only; omega)) rfl rfl ?_; refine hx_plain rfl ?_; refine h_convInt rfl rfl UC.out UC.out rfl rfl ?_; refine hx_plain rfl ?_; (refine h_buildSlice rfl rfl rfl UC.out IC.size IC.zero rfl rfl (by intro v hv; simp at hv; first | (subst hv; rfl) | (rcases hv with rfl | rfl <;> rfl) | (rcases hv with rfl | rfl | rfl <;> rfl)) (by first | omega | (dsimp only; omega)) rfl rfl (fun _ => ?_)); refine hx_plain rfl ?_)
          refine h_poolAppend (E := byteE) (T := 5) (f := fun _ => mkB i) (l := bs.length + j) (m := 1) rfl rfl rfl rfl rfl UC.out IC.out rfl (.cons (.tail .head) (.cons .head .nil)) (.tail _ (.head _)) rfl (pool_const byteE (mkB i) 1) (by unfold maxLen; omega) (by omega) rfl rfl (fun v3 => ?_)
          (refine hx_plain rfl ?_; refine h_assign rfl rfl rfl rfl ?_; refine hx_nil ?_; refine hq_norm_block ?_; refine hq_then ?_; refine hc_lex ?_; refine hx_plain rfl ?_; refine h_move rfl rfl rfl rfl ?_; refine hx_plain rfl ?_; refine h_arithI rfl rfl rfl rfl (by first | omega | (dsimp only; omega)) rfl rfl ?_; refine hx_plain rfl ?_; refine h_assign rfl rfl rfl rfl ?_; refine hx_nil ?_)
          refine hq_round (j + 1, v3) (by show 600 - (j + 1) < 600 - j; omega) (by show j + 1 ≤ 600; omega) (.cons rfl (.cons rfl (.cons rfl (.cons rfl (.cons rfl .nil))))) (fun _ h => ?_)
          refine St.pool_sub (ents := [(.slice sa sn sc, bs.length), (v2, bs.length + j)] ++ [(v3, bs.length + j + 1)]) ?_ (h.sub (.cons .head (.cons (.tail .head) (.cons (.tail .head) (.cons (.tail .head) (.cons (.tail .head) (.cons (.tail .head) .nil)))))))
          intro q hq
          simp at hq ⊢
          rcases hq with rfl | rfl
          · exact .inl rfl
          · exact .inr (.inr rfl)
        · obtain rfl : j = 600 := by omega
          (refine hc_seq ?_; refine hc_seq ?_; refine hc_lex ?_; refine hx_plain rfl ?_; refine h_move rfl rfl rfl rfl ?_; refine hx_plain rfl ?_; refine h_cmp rfl rfl rfl rfl rfl rfl ?_; refine hx_nil ?_; refine hq_then ?_; refine hc_condF rfl ?_; refine hc_exit ?_; refine hq_exit_then ?_; refine hq_exit_then ?_)
          exact hq_cut v2 trivial (.cons rfl (.cons rfl (.cons rfl (.cons rfl .nil)))) (fun _ h => h)
      rintro v2 _
      refine hq_st (C' := St w F [Holds byteE [(.slice sa sn sc, List.replicate bs.length (mkB i)), (v2, List.replicate (bs.length + 600) (mkB i))], All ((ls.drop (i + 1)).map rwB), Row slE 33 g1 c1 sls, Blk p (.cells #[.slice (some ⟨g1, 0, none⟩) sls.length c1, wv] 31 (0, 0)), Holds byteE hs, RowV slE 33 fv fs]) (fun _ h => ?_) ?_
      · have h2 := h.pool_holds
        simp only [List.map_cons, List.map_nil, Seq.const] at h2
        exact h2
      refine hq_know (fun _ h => h.hold_shape (v := v2) (xs := List.replicate (bs.length + 600) (mkB i)) .head (.tail _ (.head _))) ?_
      rw [List.length_replicate]
      rintro ⟨a2, c2, rfl, _⟩
      (refine hq_exit_block ?_; refine hq_then ?_; refine hc_lex ?_; refine hx_plain rfl ?_; refine h_move rfl rfl rfl rfl ?_; refine hx_plain rfl ?_; refine h_move rfl rfl rfl rfl ?_; refine hx_plain rfl ?_; (refine h_buildSlice rfl rfl rfl UC.out IC.size IC.zero rfl rfl (by intro v hv; simp at hv; first | (subst hv; rfl) | (rcases hv with rfl | rfl <;> rfl) | (rcases hv with rfl | rfl | rfl <;> rfl)) (by first | omega | (dsimp only; omega)) rfl rfl (fun _ => ?_)); refine hx_plain rfl ?_)
      refine h_appendR (m := 1) (E := slE) (T := 33) (xs := fs) (ys := [⟨a2, bs.length + 600, c2⟩]) rfl rfl rfl rfl rfl UC.out IC.out rfl (.cons (.tail (.tail (.tail (.tail (.tail (.tail .head)))))) (.cons .head .nil)) rfl rfl (one_row slE _) (by unfold maxLen; omega) (by omega) rfl rfl (fun g4 c4 => ?_)
      (refine hx_plain rfl ?_; refine h_assign rfl rfl rfl rfl ?_; refine hx_nil ?_; refine hq_norm_block ?_; refine hq_then ?_; refine hc_lex ?_; refine hx_plain rfl ?_; refine h_move rfl rfl rfl rfl ?_; refine hx_plain rfl ?_; refine h_arithI rfl rfl rfl rfl (by first | omega | (dsimp only; omega)) rfl rfl ?_; refine hx_plain rfl ?_; refine h_assign rfl rfl rfl rfl ?_; refine hx_nil ?_)
      refine hq_round (i + 1, hs ++ [((SlV.mk sa sn sc).v, List.replicate bs.length (mkB i)), ((SlV.mk a2 (bs.length + 600) c2).v, List.replicate (bs.length + 600) (mkB i))], fs ++ [⟨a2, bs.length + 600, c2⟩], .slice (some ⟨g4, 0, none⟩) (fs ++ [SlV.mk a2 (bs.length + 600) c2]).length c4) (by show sls.length - (i + 1) < sls.length - i; omega) (hJ.step hk _) (.cons rfl (.cons rfl (.cons rfl .nil))) (fun w' h => ?_)
      have h1 := (h.pulls (M := [Holds byteE hs, Holds byteE _]) (.cons (.tail (.tail (.tail (.tail (.tail (.tail .head)))))) (.cons (.tail (.tail .head)) .nil))).holds_join
      have h2 := (h1.pulls (M := [Row slE 33 g4 _ _]) (.cons (.tail .head) .nil)).rowV_mk
      have h3 := (h2.pulls (M := [Row slE 33 g1 _ _]) (.cons (.tail (.tail (.tail (.tail .head)))) .nil)).rowV_mk
      exact h3.sub (.cons (.tail (.tail (.tail (.tail (.tail .head))))) (.cons .head (.cons (.tail (.tail (.tail .head))) (.cons (.tail .head) (.cons .head .nil)))))
    · (refine hc_seq ?_; refine hc_seq ?_; refine hc_lex ?_; refine hx_plain rfl ?_; refine h_move rfl rfl rfl rfl ?_; refine hx_plain rfl ?_; refine h_move rfl rfl rfl rfl ?_; refine hx_plain rfl ?_; refine h_nilCheck rfl rfl rfl rfl ?_; refine hx_plain rfl ?_; refine h_fieldAddr0 rfl rfl FC.out rfl rfl ?_; refine hx_plain rfl ?_; refine h_load rfl rfl UC.out rfl .head rfl rfl rfl ?_; refine hx_plain rfl ?_; refine h_len_slice rfl rfl rfl UC.out rfl rfl rfl ?_; refine hx_plain rfl ?_; refine h_cmp rfl rfl rfl rfl rfl rfl ?_; refine hx_nil ?_; refine hq_then ?_; refine hc_condDF rfl (by first | omega | (dsimp only; omega)) ?_; refine hc_exit ?_; refine hq_exit_then ?_; refine hq_exit_then ?_)
      obtain rfl : i = sls.length := by omega
      exact hq_cut (hs, fs, fv) hJ (.cons rfl (.cons rfl .nil)) (fun _ h => h.sub (.cons .head (.cons .head (.cons (.tail .head) (.cons (.tail .head) .nil)))))
  rintro ⟨hs, fs, fv⟩ hJ
  dsimp only at hJ ⊢
  have hfl := hJ.fl
  refine hq_know (fun _ h => St.rowV_shapeS h (.tail (.tail (.tail .head)))) ?_
  rintro ⟨a5, c5, rfl⟩
  (refine hq_exit_block ?_; refine hq_then ?_; refine hc_seq ?_; refine hc_seq ?_; refine hc_lex ?_; refine hx_plain rfl ?_; refine h_assign rfl rfl rfl rfl ?_; refine hx_nil ?_; refine hq_then ?_; refine hc_block ?_)
  refine hc_cut (id := 8) (Y := Unit) (fun _ => []) (fun _ => []) (fun _ => True) ?_ ?_
  · refine hc_loop (X := Nat) (fun i => [(0, .pointer (some ⟨p, 0, none⟩)), (3, .slice a5 fs.length c5), (9, .int .i64 (i : Int))]) (fun _ => [Blk p (.cells #[.slice a1 sls.length c1, wv] 31 (0, 0)), RowV slE 33 (.slice a1 sls.length c1) sls, Holds byteE hs, RowV slE 33 (.slice a5 fs.length c5) fs]) (fun i => i ≤ sls.length) (fun i => sls.length - i) 0 (.cons rfl (.cons rfl (.cons rfl .nil))) (Nat.zero_le _) (fun _ h => h) ?_
    intro i hi
    by_cases hlt : i < sls.length
    · obtain ⟨⟨⟨sa, sn, sc⟩, bs⟩, hk⟩ : ∃ q, ls[i]? = some q := ⟨_, List.getElem?_eq_getElem (by rw [hI.len]; exact hlt)⟩
      have e1 : sls[((i : Nat) : Int).toNat]? = some ⟨sa, sn, sc⟩ := by rw [← hI.sl, List.getElem?_map]; show (ls[i]?).map _ = _; rw [hk]; rfl
      have hbl : bs.length ≤ 1000 := hI.sh _ (List.mem_iff_getElem?.2 ⟨i, hk⟩)
      obtain ⟨⟨fa, fn, fc⟩, hf⟩ : ∃ f, fs[i]? = some f := ⟨_, List.getElem?_eq_getElem (by omega)⟩
      have e2 : fs[((i : Nat) : Int).toNat]? = some ⟨fa, fn, fc⟩ := hf
      obtain ⟨hm2, hm⟩ := hJ.at_ i _ _ hk hf
      dsimp only [SlV.v] at hm hm2
      refine hc_know (fun _ h => And.intro (h.hold_shape (.tail (.tail .head)) hm) (h.hold_shape (.tail (.tail .head)) hm2)) ?_
      rw [List.length_replicate, List.length_replicate]
      rintro ⟨⟨a3, c3, e, _, _, hfa⟩, ⟨a4, c4, e', _, _, hsa⟩⟩
      injection e with e1' e2' e3'
      subst e1' e2' e3'
      injection e' with e1' e2' e3'
      subst e1' e2' e3'
      obtain ⟨g3, o3, rfl⟩ := hfa.resolve_left (fun e => by have := congrArg List.length e; rw [List.length_replicate] at this; cases this)
      refine hc_rowV (.tail .head) ?_ ?_
      · intro _ e
        rw [e] at hlt
        exact absurd hlt (Nat.not_lt_zero _)
      rintro g1 d1 e
      injection e with e1' e2' e3'
      subst e1' e3'
      refine hc_rowV (.tail (.tail (.tail .head))) ?_ ?_
      · intro _ e
        rw [e] at hfl
        have h0 : 0 = sls.length := hfl
        omega
      rintro g2 d2 e
      injection e with e1' e2' e3'
      subst e1' e3'
      (refine hc_seq ?_; refine hc_seq ?_; refine hc_lex ?_; refine hx_plain rfl ?_; refine h_move rfl rfl rfl rfl ?_; refine hx_plain rfl ?_; refine h_move rfl rfl rfl rfl ?_; refine hx_plain rfl ?_; refine h_len_slice rfl rfl rfl UC.out rfl rfl rfl ?_; refine hx_plain rfl ?_; refine h_cmp rfl rfl rfl rfl rfl rfl ?_; refine hx_nil ?_; refine hq_then ?_; refine hc_condDT rfl (by first | omega | (dsimp only; omega)) ?_; refine hc_skip ?_; refine hq_then ?_; refine hc_seq ?_; refine hc_block ?_; refine hc_seq ?_; refine hc_seq ?_; refine hc_draw0 (by kernel_rfl) (by kernel_rfl) ?_; refine hx_plain rfl ?_; refine h_move rfl rfl rfl rfl ?_; refine hx_plain rfl ?_; refine h_move rfl rfl rfl rfl ?_; refine hx_plain rfl ?_; refine h_rowAddr rfl rfl rfl UC.out IC.size (by first | omega | (dsimp only; omega)) (by first | omega | (dsimp only; omega)) rfl rfl ?_; refine hx_plain rfl ?_; refine h_rowLoad1 rfl .head rfl UC.out rfl (by with_reducible assumption) rfl rfl rfl ?_; refine hx_plain rfl ?_; refine h_len_slice rfl rfl rfl UC.out rfl rfl rfl ?_; refine hx_plain rfl ?_; refine h_move rfl rfl rfl rfl ?_; refine hx_plain rfl ?_; refine h_nilCheck rfl rfl rfl rfl ?_; refine hx_plain rfl ?_; refine h_fieldAddr0 rfl rfl FC.out rfl rfl ?_; refine hx_plain rfl ?_; refine h_load rfl rfl UC.out rfl (.tail (.tail .head)) rfl rfl rfl ?_; refine hx_plain rfl ?_; refine h_move rfl rfl rfl rfl ?_; refine hx_plain rfl ?_; refine h_rowAddr rfl rfl rfl UC.out IC.size (by first | omega | (dsimp only; omega)) (by first | omega | (dsimp only; omega)) rfl rfl ?_; refine hx_plain rfl ?_; refine h_rowLoad1 rfl (.tail .head) rfl UC.out rfl (by with_reducible assumption) rfl rfl rfl ?_; refine hx_plain rfl ?_; refine h_len_slice rfl rfl rfl UC.out rfl rfl rfl ?_; refine hx_plain rfl ?_; refine h_arithI rfl rfl rfl rfl (by first | omega | (dsimp only; omega)) rfl rfl ?_; refine hx_plain rfl ?_; refine h_cmp rfl rfl rfl rfl rfl rfl ?_; refine hx_nil ?_; refine hq_then ?_; refine hc_condDF rfl (by first | omega | (dsimp only; omega)) ?_; refine hc_skip ?_; refine hq_then ?_; refine hc_seq ?_; refine hc_lex ?_; refine hx_plain rfl ?_; refine h_assign rfl rfl rfl rfl ?_; refine hx_nil ?_; refine hq_then ?_; refine hc_block ?_)
      refine hc_cut (id := 10) (Y := Unit) (fun _ => [(0, .pointer (some ⟨p, 0, none⟩)), (3, .slice (some ⟨g2, 0, none⟩) fs.length c5), (9, .int .i64 (i : Int))]) (fun _ => [Row slE 33 g2 c5 fs, Row slE 33 g1 c1 sls, Blk p (.cells #[.slice (some ⟨g1, 0, none⟩) sls.length c1, wv] 31 (0, 0)), Holds byteE hs]) (fun _ => True) ?_ ?_
      · refine hc_loop (X := Nat) (fun j => [(0, .pointer (some ⟨p, 0, none⟩)), (3, .slice (some ⟨g2, 0, none⟩) fs.length c5), (9, .int .i64 (i : Int)), (10, .int .i64 (j : Int))]) (fun _ => [Row slE 33 g2 c5 fs, Row slE 33 g1 c1 sls, Blk p (.cells #[.slice (some ⟨g1, 0, none⟩) sls.length c1, wv] 31 (0, 0)), Holds byteE hs]) (fun j => j ≤ bs.length + 600) (fun j => bs.length + 600 - j) 0 (.cons rfl (.cons rfl (.cons rfl (.cons rfl .nil)))) (Nat.zero_le _) (fun _ h => h) ?_
        intro j hj
        by_cases hjl : j < bs.length + 600
        · have e3 : (List.replicate (bs.length + 600) (mkB i))[((j : Nat) : Int).toNat]? = some (mkB i) := by simp [hjl]
          by_cases hj2 : j < bs.length
          · have e4 : (List.replicate bs.length (mkB i))[((j : Nat) : Int).toNat]? = some (mkB i) := by simp [hj2]
            obtain ⟨g4, o4, rfl⟩ := hsa.resolve_left (fun e => by have := congrArg List.length e; rw [List.length_replicate] at this; have h0 : bs.length = 0 := this; omega)
            (refine hc_seq ?_; refine hc_seq ?_; refine hc_lex ?_; refine hx_plain rfl ?_; refine h_move rfl rfl rfl rfl ?_; refine hx_plain rfl ?_; refine h_move rfl rfl rfl rfl ?_; refine hx_plain rfl ?_; refine h_move rfl rfl rfl rfl ?_; refine hx_plain rfl ?_; refine h_rowAddr rfl rfl rfl UC.out IC.size (by first | omega | (dsimp only; omega)) (by first | omega | (dsimp only; omega)) rfl rfl ?_; refine hx_plain rfl ?_; refine h_rowLoad1 rfl .head rfl UC.out rfl (by with_reducible assumption) rfl rfl rfl ?_; refine hx_plain rfl ?_; refine h_len_slice rfl rfl rfl UC.out rfl rfl rfl ?_; refine hx_plain rfl ?_; refine h_cmp rfl rfl rfl rfl rfl rfl ?_; refine hx_nil ?_; refine hq_then ?_; refine hc_condDT rfl (by first | omega | (dsimp only; omega)) ?_; refine hc_skip ?_; refine hq_then ?_; refine hc_seq ?_; refine hc_block ?_; refine hc_seq ?_; refine hc_lex ?_; refine hx_plain rfl ?_; refine h_move rfl rfl rfl rfl ?_; refine hx_plain rfl ?_; refine h_move rfl rfl rfl rfl ?_; refine hx_plain rfl ?_; refine h_rowAddr rfl rfl rfl UC.out IC.size (by first | omega | (dsimp only; omega)) (by first | omega | (dsimp only; omega)) rfl rfl ?_; refine hx_plain rfl ?_; refine h_rowLoad1 rfl .head rfl UC.out rfl (by with_reducible assumption) rfl rfl rfl ?_; refine hx_plain rfl ?_; refine h_move rfl rfl rfl rfl ?_; refine hx_plain rfl ?_; refine h_indexAddr rfl rfl rfl UC.out IC.size (by first | omega | (dsimp only; omega)) (by first | omega | (dsimp only; omega)) rfl rfl ?_; refine hx_plain rfl ?_; refine h_holdLoad0 rfl (.tail (.tail (.tail .head))) hm rfl UC.out rfl (by with_reducible assumption) rfl rfl rfl ?_; refine hx_plain rfl ?_; refine h_move rfl rfl rfl rfl ?_; refine hx_plain rfl ?_; refine h_remI rfl rfl rfl (by first | omega | (dsimp only; omega)) rfl rfl ?_; refine hx_plain rfl ?_; refine h_arithI rfl rfl rfl rfl (by first | omega | (dsimp only; omega)) rfl rfl ?_; refine hx_plain rfl ?_; refine h_convInt rfl rfl UC.out UC.out rfl rfl ?_; refine hx_plain rfl ?_; refine h_cmp rfl rfl rfl rfl rfl rfl ?_; refine hx_plain rfl ?_; refine h_move rfl rfl rfl rfl ?_; refine hx_gcaseD rfl rfl rfl (fun hc => ?_) (fun hc => ?_); refine hx_skip rfl rfl rfl rfl rfl rfl ?_; refine hx_skip rfl rfl rfl rfl rfl rfl ?_; refine hx_skip rfl rfl rfl rfl rfl rfl ?_; refine hx_skip rfl rfl rfl rfl rfl rfl ?_; refine hx_skip rfl rfl rfl rfl rfl rfl ?_; refine hx_skip rfl rfl rfl rfl rfl rfl ?_; refine hx_skip rfl rfl rfl rfl rfl rfl ?_; refine hx_skip rfl rfl rfl rfl rfl rfl ?_; refine hx_skip rfl rfl rfl rfl rfl rfl ?_; refine hx_skip rfl rfl rfl rfl rfl rfl ?_; refine hx_skip rfl rfl rfl rfl rfl rfl ?_; refine hx_skipU rfl rfl rfl rfl rfl ?_; refine hx_skipU rfl rfl rfl rfl rfl ?_; refine hx_skipU rfl rfl rfl rfl rfl ?_; refine hx_skipU rfl rfl rfl rfl rfl ?_; refine hx_skipU rfl rfl rfl rfl rfl ?_; refine hx_skipU rfl rfl rfl rfl rfl ?_; refine hx_skipU rfl rfl rfl rfl rfl ?_; refine hx_skipU rfl rfl rfl rfl rfl ?_; refine hx_skipU rfl rfl rfl rfl rfl ?_; refine hx_skipU rfl rfl rfl rfl rfl ?_; refine hx_skipU rfl rfl rfl rfl rfl ?_; refine hx_skipU rfl rfl rfl rfl rfl ?_; refine hx_skipU rfl rfl rfl rfl rfl ?_; refine hx_skipU rfl rfl rfl rfl rfl ?_; refine hx_skipU rfl rfl rfl rfl rfl ?_; refine hx_skip rfl rfl rfl rfl rfl rfl ?_; refine hx_plain rfl ?_; refine h_pickT rfl rfl rfl rfl rfl ?_; refine hx_nil ?_; refine hq_then ?_; refine hc_condT rfl ?_; refine hc_seq ?_; refine hc_lex ?_; refine hx_plain rfl ?_; refine h_assign rfl rfl rfl rfl ?_; refine hx_nil ?_; refine hq_then ?_; refine hc_ret ?_; refine hq_ret_block ?_; refine hq_ret_then ?_; refine hq_ret_then ?_; refine hq_cut_ret ?_; refine hq_ret_block ?_; refine hq_ret_block ?_; refine hq_ret_then ?_; refine hq_ret_then ?_; refine hq_cut_ret ?_; refine hq_ret_block ?_; refine hq_ret_then ?_; rotate_left; refine hx_yes rfl rfl rfl ?_; refine h_move rfl rfl rfl rfl ?_; refine hx_yes rfl rfl rfl ?_; refine h_move rfl rfl rfl rfl ?_; refine hx_yes rfl rfl rfl ?_; refine h_nilCheck rfl rfl rfl rfl ?_; refine hx_yes rfl rfl rfl ?_; refine h_fieldAddr0 rfl rfl FC.out rfl rfl ?_; refine hx_yes rfl rfl rfl ?_; refine h_load rfl rfl UC.out rfl (.tail (.tail .head)) rfl rfl rfl ?_; refine hx_yes rfl rfl rfl ?_; refine h_move rfl rfl rfl rfl ?_; refine hx_yes rfl rfl rfl ?_; refine h_rowAddr rfl rfl rfl UC.out IC.size (by first | omega | (dsimp only; omega)) (by first | omega | (dsimp only; omega)) rfl rfl ?_; refine hx_yes rfl rfl rfl ?_; refine h_rowLoad1 rfl (.tail .head) rfl UC.out rfl (by with_reducible assumption) rfl rfl rfl ?_; refine hx_yes rfl rfl rfl ?_; refine h_len_slice rfl rfl rfl UC.out rfl rfl rfl ?_; refine hx_yes rfl rfl rfl ?_; refine h_cmp rfl rfl rfl rfl rfl rfl ?_; refine hx_yes rfl rfl rfl ?_; refine h_move rfl rfl rfl rfl ?_; refine hx_gT rfl rfl rfl (by first | omega | (dsimp only; omega)) ?_; refine hx_yes rfl rfl rfl ?_; refine h_move rfl rfl rfl rfl ?_; refine hx_yes rfl rfl rfl ?_; refine h_nilCheck rfl rfl rfl rfl ?_; refine hx_yes rfl rfl rfl ?_; refine h_fieldAddr0 rfl rfl FC.out rfl rfl ?_; refine hx_yes rfl rfl rfl ?_; refine h_load rfl rfl UC.out rfl (.tail (.tail .head)) rfl rfl rfl ?_; refine hx_yes rfl rfl rfl ?_; refine h_move rfl rfl rfl rfl ?_; refine hx_yes rfl rfl rfl ?_; refine h_rowAddr rfl rfl rfl UC.out IC.size (by first | omega | (dsimp only; omega)) (by first | omega | (dsimp only; omega)) rfl rfl ?_; refine hx_yes rfl rfl rfl ?_; refine h_rowLoad1 rfl (.tail .head) rfl UC.out rfl (by with_reducible assumption) rfl rfl rfl ?_; refine hx_yes rfl rfl rfl ?_; refine h_move rfl rfl rfl rfl ?_; refine hx_yes rfl rfl rfl ?_; refine h_indexAddr rfl rfl rfl UC.out IC.size (by first | omega | (dsimp only; omega)) (by first | omega | (dsimp only; omega)) rfl rfl ?_; refine hx_yes rfl rfl rfl ?_; refine h_holdLoad0 rfl (.tail (.tail (.tail .head))) hm2 rfl UC.out rfl (by with_reducible assumption) rfl rfl rfl ?_; refine hx_yes rfl rfl rfl ?_; refine h_move rfl rfl rfl rfl ?_; refine hx_yes rfl rfl rfl ?_; refine h_remI rfl rfl rfl (by first | omega | (dsimp only; omega)) rfl rfl ?_; refine hx_yes rfl rfl rfl ?_; refine h_arithI rfl rfl rfl rfl (by first | omega | (dsimp only; omega)) rfl rfl ?_; refine hx_yes rfl rfl rfl ?_; refine h_convInt rfl rfl UC.out UC.out rfl rfl ?_; refine hx_yes rfl rfl rfl ?_; refine h_cmp rfl rfl rfl rfl rfl rfl ?_; refine hx_yes rfl rfl rfl ?_; refine h_pickT rfl rfl rfl rfl rfl ?_; refine hx_plain rfl ?_; refine h_pickF rfl rfl rfl rfl rfl ?_; refine hx_nil ?_; refine hq_then ?_; refine hc_condDF rfl (by first | omega | (dsimp only; omega)) ?_; refine hc_skip ?_; refine hq_norm_block ?_; refine hq_then ?_; refine hc_lex ?_; refine hx_plain rfl ?_; refine h_move rfl rfl rfl rfl ?_; refine hx_plain rfl ?_; refine h_arithI rfl rfl rfl rfl (by first | omega | (dsimp only; omega)) rfl rfl ?_; refine hx_plain rfl ?_; refine h_assign rfl rfl rfl rfl ?_; refine hx_nil ?_; rotate_left)
            any_goals (exfalso; exact absurd rfl hc)
            exact hq_round (j + 1) (by omega) (by omega) (.cons rfl (.cons rfl (.cons rfl (.cons rfl .nil)))) (fun _ h => h)
          · (refine hc_seq ?_; refine hc_seq ?_; refine hc_lex ?_; refine hx_plain rfl ?_; refine h_move rfl rfl rfl rfl ?_; refine hx_plain rfl ?_; refine h_move rfl rfl rfl rfl ?_; refine hx_plain rfl ?_; refine h_move rfl rfl rfl rfl ?_; refine hx_plain rfl ?_; refine h_rowAddr rfl rfl rfl UC.out IC.size (by first | omega | (dsimp only; omega)) (by first | omega | (dsimp only; omega)) rfl rfl ?_; refine hx_plain rfl ?_; refine h_rowLoad1 rfl .head rfl UC.out rfl (by with_reducible assumption) rfl rfl rfl ?_; refine hx_plain rfl ?_; refine h_len_slice rfl rfl rfl UC.out rfl rfl rfl ?_; refine hx_plain rfl ?_; refine h_cmp rfl rfl rfl rfl rfl rfl ?_; refine hx_nil ?_; refine hq_then ?_; refine hc_condDT rfl (by first | omega | (dsimp only; omega)) ?_; refine hc_skip ?_; refine hq_then ?_; refine hc_seq ?_; refine hc_block ?_; refine hc_seq ?_; refine hc_lex ?_; refine hx_plain rfl ?_; refine h_move rfl rfl rfl rfl ?_; refine hx_plain rfl ?_; refine h_move rfl rfl rfl rfl ?_; refine hx_plain rfl ?_; refine h_rowAddr rfl rfl rfl UC.out IC.size (by first | omega | (dsimp only; omega)) (by first | omega | (dsimp only; omega)) rfl rfl ?_; refine hx_plain rfl ?_; refine h_rowLoad1 rfl .head rfl UC.out rfl (by with_reducible assumption) rfl rfl rfl ?_; refine hx_plain rfl ?_; refine h_move rfl rfl rfl rfl ?_; refine hx_plain rfl ?_; refine h_indexAddr rfl rfl rfl UC.out IC.size (by first | omega | (dsimp only; omega)) (by first | omega | (dsimp only; omega)) rfl rfl ?_; refine hx_plain rfl ?_; refine h_holdLoad0 rfl (.tail (.tail (.tail .head))) hm rfl UC.out rfl (by with_reducible assumption) rfl rfl rfl ?_; refine hx_plain rfl ?_; refine h_move rfl rfl rfl rfl ?_; refine hx_plain rfl ?_; refine h_remI rfl rfl rfl (by first | omega | (dsimp only; omega)) rfl rfl ?_; refine hx_plain rfl ?_; refine h_arithI rfl rfl rfl rfl (by first | omega | (dsimp only; omega)) rfl rfl ?_; refine hx_plain rfl ?_; refine h_convInt rfl rfl UC.out UC.out rfl rfl ?_; refine hx_plain rfl ?_; refine h_cmp rfl rfl rfl rfl rfl rfl ?_; refine hx_plain rfl ?_; refine h_move rfl rfl rfl rfl ?_; refine hx_gcaseD rfl rfl rfl (fun hc => ?_) (fun hc => ?_); refine hx_skip rfl rfl rfl rfl rfl rfl ?_; refine hx_skip rfl rfl rfl rfl rfl rfl ?_; refine hx_skip rfl rfl rfl rfl rfl rfl ?_; refine hx_skip rfl rfl rfl rfl rfl rfl ?_; refine hx_skip rfl rfl rfl rfl rfl rfl ?_; refine hx_skip rfl rfl rfl rfl rfl rfl ?_; refine hx_skip rfl rfl rfl rfl rfl rfl ?_; refine hx_skip rfl rfl rfl rfl rfl rfl ?_; refine hx_skip rfl rfl rfl rfl rfl rfl ?_; refine hx_skip rfl rfl rfl rfl rfl rfl ?_; refine hx_skip rfl rfl rfl rfl rfl rfl ?_; refine hx_skipU rfl rfl rfl rfl rfl ?_; refine hx_skipU rfl rfl rfl rfl rfl ?_; refine hx_skipU rfl rfl rfl rfl rfl ?_; refine hx_skipU rfl rfl rfl rfl rfl ?_; refine hx_skipU rfl rfl rfl rfl rfl ?_; refine hx_skipU rfl rfl rfl rfl rfl ?_; refine hx_skipU rfl rfl rfl rfl rfl ?_; refine hx_skipU rfl rfl rfl rfl rfl ?_; refine hx_skipU rfl rfl rfl rfl rfl ?_; refine hx_skipU rfl rfl rfl rfl rfl ?_; refine hx_skipU rfl rfl rfl rfl rfl ?_; refine hx_skipU rfl rfl rfl rfl rfl ?_; refine hx_skipU rfl rfl rfl rfl rfl ?_; refine hx_skipU rfl rfl rfl rfl rfl ?_; refine hx_skipU rfl rfl rfl rfl rfl ?_; refine hx_skip rfl rfl rfl rfl rfl rfl ?_; refine hx_plain rfl ?_; refine h_pickT rfl rfl rfl rfl rfl ?_; refine hx_nil ?_; refine hq_then ?_; refine hc_condT rfl ?_; refine hc_seq ?_; refine hc_lex ?_; refine hx_plain rfl ?_; refine h_assign rfl rfl rfl rfl ?_; refine hx_nil ?_; refine hq_then ?_; refine hc_ret ?_; refine hq_ret_block ?_; refine hq_ret_then ?_; refine hq_ret_then ?_; refine hq_cut_ret ?_; refine hq_ret_block ?_; refine hq_ret_block ?_; refine hq_ret_then ?_; refine hq_ret_then ?_; refine hq_cut_ret ?_; refine hq_ret_block ?_; refine hq_ret_then ?_; rotate_left; refine hx_yes rfl rfl rfl ?_; refine h_move rfl rfl rfl rfl ?_; refine hx_yes rfl rfl rfl ?_; refine h_move rfl rfl rfl rfl ?_; refine hx_yes rfl rfl rfl ?_; refine h_nilCheck rfl rfl rfl rfl ?_; refine hx_yes rfl rfl rfl ?_; refine h_fieldAddr0 rfl rfl FC.out rfl rfl ?_; refine hx_yes rfl rfl rfl ?_; refine h_load rfl rfl UC.out rfl (.tail (.tail .head)) rfl rfl rfl ?_; refine hx_yes rfl rfl rfl ?_; refine h_move rfl rfl rfl rfl ?_; refine hx_yes rfl rfl rfl ?_; refine h_rowAddr rfl rfl rfl UC.out IC.size (by first | omega | (dsimp only; omega)) (by first | omega | (dsimp only; omega)) rfl rfl ?_; refine hx_yes rfl rfl rfl ?_; refine h_rowLoad1 rfl (.tail .head) rfl UC.out rfl (by with_reducible assumption) rfl rfl rfl ?_; refine hx_yes rfl rfl rfl ?_; refine h_len_slice rfl rfl rfl UC.out rfl rfl rfl ?_; refine hx_yes rfl rfl rfl ?_; refine h_cmp rfl rfl rfl rfl rfl rfl ?_; refine hx_yes rfl rfl rfl ?_; refine h_move rfl rfl rfl rfl ?_; refine hx_gF rfl rfl rfl (by first | omega | (dsimp only; omega)) ?_; refine hx_skip rfl rfl rfl rfl rfl rfl ?_; refine hx_skip rfl rfl rfl rfl rfl rfl ?_; refine hx_skip rfl rfl rfl rfl rfl rfl ?_; refine hx_skip rfl rfl rfl rfl rfl rfl ?_; refine hx_skip rfl rfl rfl rfl rfl rfl ?_; refine hx_skip rfl rfl rfl rfl rfl rfl ?_; refine hx_skip rfl rfl rfl rfl rfl rfl ?_; refine hx_skip rfl rfl rfl rfl rfl rfl ?_; refine hx_skip rfl rfl rfl rfl rfl rfl ?_; refine hx_skip rfl rfl rfl rfl rfl rfl ?_; refine hx_skip rfl rfl rfl rfl rfl rfl ?_; refine hx_skip rfl rfl rfl rfl rfl rfl ?_; refine hx_skip rfl rfl rfl rfl rfl rfl ?_; refine hx_skip rfl rfl rfl rfl rfl rfl ?_; refine hx_skip rfl rfl rfl rfl rfl rfl ?_; refine hx_yes rfl rfl rfl ?_; refine h_pickF rfl rfl rfl rfl rfl ?_; refine hx_plain rfl ?_; refine h_pickF rfl rfl rfl rfl rfl ?_; refine hx_nil ?_; refine hq_then ?_; refine hc_condF rfl ?_; refine hc_skip ?_; refine hq_norm_block ?_; refine hq_then ?_; refine hc_lex ?_; refine hx_plain rfl ?_; refine h_move rfl rfl rfl rfl ?_; refine hx_plain rfl ?_; refine h_arithI rfl rfl rfl rfl (by first | omega | (dsimp only; omega)) rfl rfl ?_; refine hx_plain rfl ?_; refine h_assign rfl rfl rfl rfl ?_; refine hx_nil ?_; rotate_left)
            any_goals (exfalso; exact absurd rfl hc)
            exact hq_round (j + 1) (by omega) (by omega) (.cons rfl (.cons rfl (.cons rfl (.cons rfl .nil)))) (fun _ h => h)
        · (refine hc_seq ?_; refine hc_seq ?_; refine hc_lex ?_; refine hx_plain rfl ?_; refine h_move rfl rfl rfl rfl ?_; refine hx_plain rfl ?_; refine h_move rfl rfl rfl rfl ?_; refine hx_plain rfl ?_; refine h_move rfl rfl rfl rfl ?_; refine hx_plain rfl ?_; refine h_rowAddr rfl rfl rfl UC.out IC.size (by first | omega | (dsimp only; omega)) (by first | omega | (dsimp only; omega)) rfl rfl ?_; refine hx_plain rfl ?_; refine h_rowLoad1 rfl .head rfl UC.out rfl (by with_reducible assumption) rfl rfl rfl ?_; refine hx_plain rfl ?_; refine h_len_slice rfl rfl rfl UC.out rfl rfl rfl ?_; refine hx_plain rfl ?_; refine h_cmp rfl rfl rfl rfl rfl rfl ?_; refine hx_nil ?_; refine hq_then ?_; refine hc_condDF rfl (by first | omega | (dsimp only; omega)) ?_; refine hc_exit ?_; refine hq_exit_then ?_; refine hq_exit_then ?_)
          exact hq_cut () trivial (.cons rfl (.cons rfl (.cons rfl .nil))) (fun _ h => h)
      · rintro ⟨⟩ _
        (refine hq_exit_block ?_; refine hq_norm_block ?_; refine hq_then ?_; refine hc_lex ?_; refine hx_plain rfl ?_; refine h_move rfl rfl rfl rfl ?_; refine hx_plain rfl ?_; refine h_arithI rfl rfl rfl rfl (by first | omega | (dsimp only; omega)) rfl rfl ?_; refine hx_plain rfl ?_; refine h_assign rfl rfl rfl rfl ?_; refine hx_nil ?_)
        refine hq_round (i + 1) (by omega) (by omega) (.cons rfl (.cons rfl (.cons rfl .nil))) (fun w' h => ?_)
        have h1 := (h.pulls (M := [Row slE 33 g2 _ _, Row slE 33 g1 _ _]) (.cons .head (.cons .head .nil))).rowV_mk
        have h2 := (h1.perm (List.Perm.swap _ _ _)).rowV_mk
        exact h2.pulls (M := [_, _, _, _]) (.cons (.tail (.tail .head)) (.cons .head (.cons (.tail .head) (.cons .head .nil))))
    · (refine hc_seq ?_; refine hc_seq ?_; refine hc_lex ?_; refine hx_plain rfl ?_; refine h_move rfl rfl rfl rfl ?_; refine hx_plain rfl ?_; refine h_move rfl rfl rfl rfl ?_; refine hx_plain rfl ?_; refine h_len_slice rfl rfl rfl UC.out rfl rfl rfl ?_; refine hx_plain rfl ?_; refine h_cmp rfl rfl rfl rfl rfl rfl ?_; refine hx_nil ?_; refine hq_then ?_; refine hc_condDF rfl (by first | omega | (dsimp only; omega)) ?_; refine hc_exit ?_; refine hq_exit_then ?_; refine hq_exit_then ?_)
      exact hq_cut () trivial .nil (fun _ h => h.drop.drop.drop.drop)
  · rintro ⟨⟩ _
    (refine hq_exit_block ?_; refine hq_then ?_; refine hc_seq ?_; refine hc_lex ?_; refine hx_plain rfl ?_; refine h_assign rfl rfl rfl rfl ?_; refine hx_nil ?_; refine hq_then ?_; refine hc_ret ?_)
    exact hq_ret1 (.inr rfl) rfl rfl ⟨rfl, rfl⟩ (fun _ h => h)
-- </A>
end Go.Proofs.Ytbfmmgbfliebhaa
