import Derived.Test.YtjnnlfeohbidhaaDoorL7
namespace Go.Proofs.YtjnnlfeohbidhaaDoor
open Go Go.Proofs Go.RowKit
set_option maxRecDepth 4000

theorem N4_of {bs : List Int} {at_ : Nat} {x : Int} (h : (bs.drop at_).take 4 = dg (IntKind.u64.wrap x) 4) (hx : 0 ≤ x ∧ x < 4294967296) : N4 bs at_ = x := by
  have h5 : (256 : Int) ^ 4 = 4294967296 := by decide
  unfold N4
  rw [h, numR_dg _ (by decide), u64_in (by omega), h5, Int.emod_eq_of_lt (by omega) (by omega), wrapI_in (by omega)]
theorem N8_of {bs : List Int} {at_ : Nat} {x : Int} (h : (bs.drop at_).take 8 = dg x 8) (hx : 0 ≤ x ∧ x ≤ 18446744073709551615) : N8 bs at_ = x := by
  have h5 : (256 : Int) ^ 8 = 18446744073709551616 := by decide
  unfold N8
  rw [h, numR_dg _ (by decide), h5, Int.emod_eq_of_lt (by omega) (by omega)]
theorem itB_byts {t : ItM} {ds : List Int} (h : Byts ds) : Byts (itB t ds) := by
  have hf : Byts (fieldB ds) := fun x hx => by
    unfold fieldB at hx
    rcases List.mem_append.1 hx with hx | hx
    · rcases List.mem_append.1 hx with hx | hx
      · exact dg_byts _ _ x hx
      · exact h x hx
    · rw [(List.mem_replicate.1 hx).2]; decide
  unfold itB
  split
  · exact dg_byts _ _
  · split
    · exact dg_byts _ _
    · split
      · exact dg_byts _ _
      · split
        · exact hf
        · split
          · exact hf
          · intro x hx; cases hx
theorem drop_len {α : Type} {l a b : List α} {n : Nat} (h : l.drop n = a ++ b) (ha : a ≠ []) : n + a.length + b.length = l.length := by
  have := congrArg List.length h
  rw [List.length_drop, List.length_append] at this
  have : 0 < a.length := List.length_pos_iff.2 ha
  omega
/-- What stands at the place of a field. -/
structure BodyAt (bs : List Int) (at_ : Nat) (ds : List Int) : Prop where
  n4 : N4 bs at_ = (ds.length : Int)
  nb : NB bs at_ = ds.length
  ds : (bs.drop (at_ + 4)).take ds.length = ds
  pads : ∀ x ∈ padsOf bs at_, x = 0
theorem body_at {bs ds rest : List Int} {at_ : Nat} (h : bs.drop at_ = fieldB ds ++ rest) (hd : ds.length ≤ 1048576) : BodyAt bs at_ ds := by
  unfold fieldB at h
  rw [List.append_assoc, List.append_assoc] at h
  have hl4 : (dg (IntKind.u64.wrap (ds.length : Int)) 4).length = 4 := dg_len _ _
  have n4 : N4 bs at_ = (ds.length : Int) := N4_of (by rw [h, List.take_append_of_le_length (by omega), List.take_of_length_le (by omega)]) (by omega)
  have nb : NB bs at_ = ds.length := by unfold NB; omega
  have d4 : bs.drop (at_ + 4) = ds ++ (List.replicate (padN ds.length) 0 ++ rest) := by
    rw [← List.drop_drop, h, List.drop_append_of_le_length (by omega), List.drop_of_length_le (by omega), List.nil_append]
  refine ⟨n4, nb, by rw [d4, List.take_append_of_le_length (Nat.le_refl _), List.take_length], fun x hx => ?_⟩
  unfold padsOf at hx
  rw [nb, ← List.drop_drop, d4, List.drop_append_of_le_length (Nat.le_refl _), List.drop_length, List.nil_append, List.take_append_of_le_length (by rw [List.length_replicate]; exact Nat.le_refl _)] at hx
  exact (List.mem_replicate.1 (List.mem_of_mem_take hx)).2
theorem back_ok {w : World} {bs rest ds : List Int} {at_ : Nat} {t : ItM} (hok : ItOK w (t, ds)) (h : bs.drop at_ = itB t ds ++ rest) (hat : at_ + (itB t ds).length ≤ bs.length) : backR bs at_ 0 t ds = (true, at_ + (itB t ds).length, 0) := by
  obtain ⟨hr, hk, hx, hx1, hlen⟩ := hok
  have hxr := hr.x
  have hsr := hr.s
  dsimp only at hr hk hx hx1 hlen hxr hsr
  have body : itB t ds = fieldB ds → BodyR bs at_ 0 (ds.length : Int) = (ds, at_ + (itB t ds).length, 0) := fun e => by
    rw [e] at h hat ⊢
    obtain ⟨n4, nb, hds, hp⟩ := body_at h hlen
    rw [fieldB_len] at hat ⊢
    have hE : bodyE bs at_ (ds.length : Int) = 0 := by
      unfold bodyE
      rw [if_neg (by omega), if_neg (by omega), nb, if_neg (by omega), if_neg (by omega), if_pos hp]
    unfold BodyR
    rw [if_neg (by simp), if_pos hE, nb, hds]
    simp only [Prod.mk.injEq, true_and, and_true]
    omega
  by_cases k1 : t.k = 1
  · have e : itB t ds = dg (IntKind.u64.wrap t.x) 4 := if_pos k1
    rw [e] at h hat ⊢
    rw [dg_len] at hat ⊢
    have hn := N4_of (x := t.x) (bs := bs) (at_ := at_) (by rw [h, List.take_append_of_le_length (by rw [dg_len]; decide), List.take_of_length_le (by rw [dg_len]; decide)]) ⟨hx, hx1 k1⟩
    unfold backR U32R
    rw [if_pos k1, if_neg (by simp), if_neg (by omega), hn, if_pos (Int.le_refl _)]
    simp
  by_cases k2 : t.k = 2
  · have e : itB t ds = dg (IntKind.u64.wrap t.x) 8 := by unfold itB; rw [if_neg k1, if_pos k2]
    rw [e] at h hat ⊢
    rw [dg_len] at hat ⊢
    have hw : IntKind.u64.wrap t.x = t.x := u64_in (by omega)
    rw [hw] at h
    have hn := N8_of (x := t.x) (bs := bs) (at_ := at_) (by rw [h, List.take_append_of_le_length (by rw [dg_len]; decide), List.take_of_length_le (by rw [dg_len]; decide)]) (by omega)
    unfold backR U64R
    rw [if_neg k1, if_pos k2, if_neg (by simp), if_neg (by omega), hn, hw, if_pos ⟨hx, Int.le_refl _⟩, wrapI_in (by omega)]
    simp
  by_cases k3 : t.k = 3
  · have e : itB t ds = dg t.s 8 := by unfold itB; rw [if_neg k1, if_neg k2, if_pos k3]
    rw [e] at h hat ⊢
    rw [dg_len] at hat ⊢
    have hn := N8_of (x := t.s) (bs := bs) (at_ := at_) (by rw [h, List.take_append_of_le_length (by rw [dg_len]; decide), List.take_of_length_le (by rw [dg_len]; decide)]) (by omega)
    unfold backR SumR
    rw [if_neg k1, if_neg k2, if_pos k3, if_neg (by simp), if_neg (by omega), hn]
    simp
  by_cases k4 : t.k = 4
  · have hb := body (by unfold itB; rw [if_neg k1, if_neg k2, if_neg k3, if_pos k4])
    unfold backR
    rw [if_neg k1, if_neg k2, if_neg k3, if_pos k4, hb]
    simp
  · have hb := body (by unfold itB; rw [if_neg k1, if_neg k2, if_neg k3, if_neg k4, if_pos (by omega)])
    unfold backR
    rw [if_neg k1, if_neg k2, if_neg k3, if_neg k4, hb]
    simp
theorem allB_split {ls : List (ItM × List Int)} {i : Nat} (h : i < ls.length) : allB ls = allB (ls.take i) ++ (itB ls[i].1 ls[i].2 ++ allB (ls.drop (i + 1))) := by
  conv => lhs; rw [← List.take_append_drop (i + 1) ls]
  have e1 : allB (ls.take (i + 1) ++ ls.drop (i + 1)) = allB (ls.take (i + 1)) ++ allB (ls.drop (i + 1)) := by unfold allB; rw [List.flatMap_append]
  rw [e1, allB_succ h, List.append_assoc]
theorem drop_at (a b : List Int) : (a ++ b).drop a.length = b := by simp
set_option maxHeartbeats 8000000 in
theorem bitsback_law {E : Addr} {g : Nat} {w : World} {v1 v2 : Value} {items : List (ItM × List Int)} {tl : List Int} (hI : Glo (gl E) g w) (h1 : Rd itE w v1 (items.map (·.1))) (hit : ∀ q ∈ items, ItR w q.1 q.2) (h2 : Rd byteE w v2 tl) (hb2 : Byts tl) (hl2 : tl.length ≤ 1048576) :
    Calls Tryd.prog 6 [v1, v2].toArray w (fun en w' => en = .returned (.bool true) ∧ But w w' nowhere) := by
  have hF : ∀ b, nowhere b → g ≤ b := fun _ h => h.elim
  have hF1 : ∀ b, nowhere b → w.heap.size ≤ b := fun _ h => h.elim
  obtain ⟨a2, c2, e2, l2, m2, k2⟩ := id h2
  subst e2
  refine reads_of Tryd.func6 rfl rfl (Nat.le_of_ble_eq_true rfl) ?_
  (refine hc_seq ?_; refine hc_lex ?_; refine hx_plain rfl ?_; refine h_assign rfl rfl rfl rfl ?_; refine hx_nil ?_; refine hq_then ?_; refine hc_seq ?_; refine hc_lex ?_; refine hx_plain rfl ?_)
  refine h_callI hI hF rfl rfl rfl rfl rfl rfl rfl rfl EC.out .nil (head_spec E g) ?_
  rintro u M ⟨rfl, rfl⟩
  (refine hx_plain rfl ?_; refine h_assign rfl rfl rfl rfl ?_; refine hx_nil ?_; refine hq_then ?_; refine hc_seq ?_; refine hc_seq ?_; refine hc_lex ?_; refine hx_plain rfl ?_; refine h_move rfl rfl rfl rfl ?_; refine hx_plain rfl ?_; refine h_not rfl rfl rfl rfl ?_; refine hx_nil ?_; refine hq_then ?_; refine hc_condF rfl ?_; refine hc_skip ?_; refine hq_then ?_; refine hc_seq ?_; refine hc_lex ?_; refine hx_plain rfl ?_; refine h_move rfl rfl rfl rfl ?_; refine hx_plain rfl ?_)
  refine h_callW (post := fun u M => ∃ ls : List (ItM × List Int), (∀ q ∈ ls, ItOK w q) ∧ ls.length ≤ 200 ∧ M = [RowV itE 28 u (ls.map (·.1))]) rfl rfl rfl rfl rfl rfl rfl rfl EC.out (fun w' h => fit_makes (w0 := w) items (h.rd h1) hit) ?_
  rintro vl M ⟨ls, hok, hll, rfl⟩
  have hml : (ls.map (·.1)).length = ls.length := List.length_map ..
  have htl := allB_take_len (fun q hq => (hok q hq).len) hll
  have hbl : (allB ls).length ≤ 209716800 := by have := htl ls.length; rwa [List.take_length] at this
  have hbb : Byts (allB ls) := fun x hx => by
    obtain ⟨q, hq, hx⟩ := List.mem_flatMap.1 hx
    exact itB_byts (hok q hq).r.byts x hx
  (refine hx_plain rfl ?_; refine h_assign rfl rfl rfl rfl ?_; refine hx_nil ?_; refine hq_then ?_; refine hc_seq ?_; refine hc_lex ?_; refine hx_plain rfl ?_; refine h_move rfl rfl rfl rfl ?_; refine hx_plain rfl ?_)
  refine h_callW (post := fun u M => ∃ vb vf, u = .tuple #[vb, vf] ∧ M = [RowV byteE 5 vb (allB ls), RowV intE 3 vf (froms ls)]) rfl rfl rfl rfl rfl rfl rfl rfl EC.out (fun w' h => all_makes ls (h.rdRowV .head) (fun q hq => ⟨h.rd (hok q hq).r.rd, (hok q hq).r.byts, (hok q hq).len⟩) hll) ?_
  rintro u M ⟨vb, vf, rfl, rfl⟩
  (refine hx_plain rfl ?_; refine h_move rfl rfl rfl rfl ?_; refine hx_plain rfl ?_; refine h_extract rfl rfl rfl rfl rfl ?_; refine hx_plain rfl ?_; refine h_extract rfl rfl rfl rfl rfl ?_; refine hx_plain rfl ?_; refine h_assign rfl rfl rfl rfl ?_; refine hx_plain rfl ?_; refine h_assign rfl rfl rfl rfl ?_; refine hx_nil ?_; refine hq_then ?_; refine hc_seq ?_; refine hc_lex ?_; refine hx_plain rfl ?_; refine h_move rfl rfl rfl rfl ?_; refine hx_plain rfl ?_)
  refine h_lenV rfl rfl .head rfl UC.out rfl rfl rfl ?_
  (refine hx_plain rfl ?_; refine h_assign rfl rfl rfl rfl ?_; refine hx_nil ?_; refine hq_then ?_; refine hc_seq ?_; refine hc_lex ?_; refine hx_plain rfl ?_; refine h_move rfl rfl rfl rfl ?_; refine hx_plain rfl ?_; refine h_move rfl rfl rfl rfl ?_; refine hx_plain rfl ?_)
  refine h_callW (post := fun u M => M = [RowV byteE 5 u (allB ls ++ tl)]) rfl rfl rfl rfl rfl rfl rfl rfl EC.out (fun w' h => join_makes (h.rdRowV .head) (h.rd h2) (by omega)) ?_
  rintro vj M rfl
  (refine hx_plain rfl ?_)
  refine h_callW (post := fun u M => ∃ p, u = .pointer (some ⟨p, 0, none⟩) ∧ M = [RdrO p (allB ls ++ tl) 0 0 0]) rfl rfl rfl rfl rfl rfl rfl rfl EC.out (fun w' h => newReader_makes (h.rdRowV .head) (by rw [List.length_append]; omega)) ?_
  rintro u M ⟨p, rfl, rfl⟩
  obtain ⟨bs, hbs⟩ : ∃ bs, allB ls ++ tl = bs := ⟨_, rfl⟩
  have hbsl : bs.length = (allB ls).length + tl.length := by rw [← hbs, List.length_append]
  have hby : Byts bs := by rw [← hbs]; intro x hx; rcases List.mem_append.1 hx with h | h; exact hbb x h; exact hb2 x h
  rw [hbs]
  (refine hx_plain rfl ?_; refine h_assign rfl rfl rfl rfl ?_; refine hx_nil ?_; refine hq_then ?_)
  refine hc_meet (Y := Unit) (fun _ => [(1, .slice a2 tl.length c2), (9, .int .i64 ((allB ls).length : Int)), (10, .pointer (some ⟨p, 0, none⟩))]) (fun _ => [RdrX p bs (allB ls).length 0]) (fun _ => True) ?_ ?_
  · refine hc_rowV (.tail (.tail (.tail (.tail .head)))) (fun e0 h0 => ?_) (fun gl cl e0 => ?_)
    · have hl0 : ls = [] := by
        have := congrArg List.length h0
        rw [hml, List.length_nil] at this
        exact List.eq_nil_of_length_eq_zero this
      subst e0 hl0
      (refine hc_seq ?_; refine hc_lex ?_; refine hx_plain rfl ?_; refine h_assign rfl rfl rfl rfl ?_; refine hx_nil ?_; refine hq_then ?_; refine hc_block ?_)
      refine hc_cut (id := 0) (Y := Unit) (fun _ => [(1, .slice a2 tl.length c2), (9, .int .i64 ((allB []).length : Int)), (10, .pointer (some ⟨p, 0, none⟩))]) (fun _ => [RdrX p bs (allB []).length 0]) (fun _ => True) ?_ ?_
      · refine hc_loop (X := Unit) (fun _ => [(1, .slice a2 tl.length c2), (6, .slice none 0 0), (9, .int .i64 ((allB []).length : Int)), (10, .pointer (some ⟨p, 0, none⟩)), (11, .int .i64 0)]) (fun _ => [RdrX p bs (allB []).length 0]) (fun _ => True) (fun _ => 0) () (.cons rfl (.cons rfl (.cons rfl (.cons rfl (.cons rfl .nil))))) trivial (fun _ h => RdrO.toX (h.sub (.cons .head .nil))) ?_
        rintro ⟨⟩ _
        (refine hc_seq ?_; refine hc_seq ?_; refine hc_lex ?_; refine hx_plain rfl ?_; refine h_move rfl rfl rfl rfl ?_; refine hx_plain rfl ?_; refine h_move rfl rfl rfl rfl ?_; refine hx_plain rfl ?_; refine h_len_slice rfl rfl rfl UC.out rfl rfl rfl ?_; refine hx_plain rfl ?_; refine h_cmp rfl rfl rfl rfl rfl rfl ?_; refine hx_nil ?_; refine hq_then ?_; refine hc_condF rfl ?_; refine hc_exit ?_; refine hq_exit_then ?_; refine hq_exit_then ?_)
        exact hq_cut () trivial (.cons rfl (.cons rfl (.cons rfl .nil))) (fun _ h => h)
      · rintro ⟨⟩ _
        (refine hq_exit_block ?_)
        exact hq_met () trivial (.cons rfl (.cons rfl (.cons rfl .nil))) (fun _ h => h)
    · subst e0
      rw [hml]
      (refine hc_seq ?_; refine hc_lex ?_; refine hx_plain rfl ?_; refine h_assign rfl rfl rfl rfl ?_; refine hx_nil ?_; refine hq_then ?_; refine hc_block ?_)
      refine hc_cut (id := 0) (Y := Unit) (fun _ => [(1, .slice a2 tl.length c2), (9, .int .i64 ((allB ls).length : Int)), (10, .pointer (some ⟨p, 0, none⟩))]) (fun _ => [RdrX p bs (allB ls).length 0]) (fun _ => True) ?_ ?_
      · refine hc_loop (X := Nat) (fun i => [(1, .slice a2 tl.length c2), (6, .slice (some ⟨gl, 0, none⟩) ls.length cl), (9, .int .i64 ((allB ls).length : Int)), (10, .pointer (some ⟨p, 0, none⟩)), (11, .int .i64 (i : Int))]) (fun i => [RdrX p bs (allB (ls.take i)).length 0, Row itE 28 gl cl (ls.map (·.1))]) (fun i => i ≤ ls.length) (fun i => ls.length - i) 0 (.cons rfl (.cons rfl (.cons rfl (.cons rfl (.cons rfl .nil))))) (Nat.zero_le _) (fun _ h => (RdrO.toX (h.sub (.cons (.tail .head) (.cons .head .nil))))) ?_
        intro i hi
        by_cases hlt : i < ls.length
        · obtain ⟨⟨t, ds⟩, hq⟩ : ∃ q, ls[i] = q := ⟨_, rfl⟩
          have e1 : (ls.map (·.1))[((i : Nat) : Int).toNat]? = some t := by
            rw [List.getElem?_map, show ((i : Nat) : Int).toNat = i by omega, List.getElem?_eq_getElem hlt, hq]
            rfl
          have hq2 := hok _ (List.getElem_mem hlt)
          rw [hq] at hq2
          have hs := allB_split hlt
          rw [hq] at hs
          dsimp only at hs
          have hd : bs.drop (allB (ls.take i)).length = itB t ds ++ (allB (ls.drop (i + 1)) ++ tl) := by
            rw [← hbs, hs, List.append_assoc, drop_at, List.append_assoc]
          have hlen : (allB (ls.take i)).length + (itB t ds).length ≤ bs.length := by
            have := congrArg List.length hs
            simp only [List.length_append] at this
            omega
          have hR := back_ok hq2 hd hlen
          have hnx : (allB (ls.take (i + 1))).length = (allB (ls.take i)).length + (itB t ds).length := by rw [allB_succ hlt, List.length_append, hq]
          (refine hc_seq ?_; refine hc_seq ?_; refine hc_lex ?_; refine hx_plain rfl ?_; refine h_move rfl rfl rfl rfl ?_; refine hx_plain rfl ?_; refine h_move rfl rfl rfl rfl ?_; refine hx_plain rfl ?_; refine h_len_slice rfl rfl rfl UC.out rfl rfl rfl ?_; refine hx_plain rfl ?_; refine h_cmp rfl rfl rfl rfl rfl rfl ?_; refine hx_nil ?_; refine hq_then ?_; refine hc_condDT rfl (by omega) ?_; refine hc_skip ?_; refine hq_then ?_; refine hc_seq ?_; refine hc_block ?_; refine hc_seq ?_; refine hc_lex ?_; refine hx_plain rfl ?_; refine h_move rfl rfl rfl rfl ?_; refine hx_plain rfl ?_; refine h_move rfl rfl rfl rfl ?_; refine hx_plain rfl ?_; refine h_move rfl rfl rfl rfl ?_; refine hx_plain rfl ?_; refine h_rowAddr rfl rfl rfl UC.out IC.size (by omega) (by omega) rfl rfl ?_; refine hx_plain rfl ?_; refine h_rowLoadN rfl (.tail .head) rfl UC.out rfl IC.size (by with_reducible assumption) rfl rfl rfl ?_; refine hx_plain rfl ?_)
          refine h_callB (.refl w nowhere) hF1 rfl rfl rfl rfl rfl rfl rfl rfl EC.out (.cons .head .nil) (back_spec hI p bs (allB (ls.take i)).length 0 t ds hq2.r.rd hby (by omega) (by omega)) ?_
          rintro u M ⟨rfl, rfl⟩
          rw [hR, ← hnx]
          (refine hx_plain rfl ?_; refine h_assign rfl rfl rfl rfl ?_; refine hx_nil ?_; refine hq_then ?_; refine hc_seq ?_; refine hc_lex ?_; refine hx_plain rfl ?_; refine h_move rfl rfl rfl rfl ?_; refine hx_plain rfl ?_; refine h_not rfl rfl rfl rfl ?_; refine hx_nil ?_; refine hq_then ?_; refine hc_condF rfl ?_; refine hc_skip ?_; refine hq_norm_block ?_; refine hq_then ?_; refine hc_lex ?_; refine hx_plain rfl ?_; refine h_move rfl rfl rfl rfl ?_; refine hx_plain rfl ?_; refine h_arithI rfl rfl rfl rfl (by omega) rfl rfl ?_; refine hx_plain rfl ?_; refine h_assign rfl rfl rfl rfl ?_; refine hx_nil ?_)
          exact hq_round (i + 1) (by omega) (by omega) (.cons rfl (.cons rfl (.cons rfl (.cons rfl (.cons rfl .nil))))) (fun _ h => h)
        · (refine hc_seq ?_; refine hc_seq ?_; refine hc_lex ?_; refine hx_plain rfl ?_; refine h_move rfl rfl rfl rfl ?_; refine hx_plain rfl ?_; refine h_move rfl rfl rfl rfl ?_; refine hx_plain rfl ?_; refine h_len_slice rfl rfl rfl UC.out rfl rfl rfl ?_; refine hx_plain rfl ?_; refine h_cmp rfl rfl rfl rfl rfl rfl ?_; refine hx_nil ?_; refine hq_then ?_; refine hc_condDF rfl (by omega) ?_; refine hc_exit ?_; refine hq_exit_then ?_; refine hq_exit_then ?_)
          refine hq_cut () trivial (.cons rfl (.cons rfl (.cons rfl .nil))) (fun _ h => ?_)
          rw [List.take_of_length_le (by omega)] at h
          exact h.sub (.cons .head .nil)
      · rintro ⟨⟩ _
        (refine hq_exit_block ?_)
        exact hq_met () trivial (.cons rfl (.cons rfl (.cons rfl .nil))) (fun _ h => h)
  · rintro ⟨⟩ _
    by_cases htl0 : 0 < tl.length
    · have c16 : CloseR bs (allB ls).length 0 = 16 := if_pos ⟨rfl, by omega⟩
      have c17 : CloseR bs (allB ls).length 16 = 16 := if_neg (fun h => absurd h.1 (by decide))
      have c18 : U32R bs (allB ls).length 16 big = (0, (allB ls).length, 16) := if_pos (by decide)
      (refine hc_seq ?_; refine hc_lex ?_; refine hx_plain rfl ?_; refine h_move rfl rfl rfl rfl ?_; refine hx_plain rfl ?_)
      refine h_call rfl rfl rfl rfl rfl rfl rfl rfl EC.out (.cons .head .nil) (err_spec p bs (allB ls).length 0) ?_
      rintro u M ⟨rfl, rfl⟩
      (refine hx_plain rfl ?_; refine h_move rfl rfl rfl rfl ?_; refine hx_plain rfl ?_; refine h_extract rfl rfl rfl rfl rfl ?_; refine hx_plain rfl ?_; refine h_extract rfl rfl rfl rfl rfl ?_; refine hx_plain rfl ?_; refine h_assign rfl rfl rfl rfl ?_; refine hx_plain rfl ?_; refine h_assign rfl rfl rfl rfl ?_; refine hx_nil ?_; refine hq_then ?_; refine hc_seq ?_; refine hc_seq ?_; refine hc_lex ?_; refine hx_plain rfl ?_; refine h_move rfl rfl rfl rfl ?_; refine hx_plain rfl ?_)
      refine h_callR rfl rfl rfl rfl rfl rfl EC.out ((num_spec 0).reads _) ?_
      (refine hx_plain rfl ?_; refine h_cmp rfl rfl rfl rfl rfl rfl ?_; refine hx_plain rfl ?_; refine h_move rfl rfl rfl rfl ?_; refine hx_yes rfl rfl rfl ?_; refine h_move rfl rfl rfl rfl ?_; refine hx_yes rfl rfl rfl ?_; refine h_move rfl rfl rfl rfl ?_; refine hx_yes rfl rfl rfl ?_; refine h_cmp rfl rfl rfl rfl rfl rfl ?_; refine hx_plain rfl ?_; refine h_pickF rfl rfl rfl rfl rfl ?_; refine hx_nil ?_; refine hq_then ?_; refine hc_condDF rfl (by omega) ?_; refine hc_skip ?_; refine hq_then ?_; refine hc_seq ?_; refine hc_lex ?_; refine hx_plain rfl ?_; refine h_assign rfl rfl rfl rfl ?_; refine hx_nil ?_; refine hq_then ?_; refine hc_seq ?_; refine hc_seq ?_; refine hc_lex ?_; refine hx_plain rfl ?_; refine h_move rfl rfl rfl rfl ?_; refine hx_plain rfl ?_; refine h_len_slice rfl rfl rfl UC.out rfl rfl rfl ?_; refine hx_plain rfl ?_; refine h_cmp rfl rfl rfl rfl rfl rfl ?_; refine hx_nil ?_; refine hq_then ?_; refine hc_condDT rfl (by omega) ?_; refine hc_lex ?_; refine hx_plain rfl ?_; refine h_assign rfl rfl rfl rfl ?_; refine hx_nil ?_; refine hq_then ?_; refine hc_seq ?_; refine hc_lex ?_; refine hx_plain rfl ?_; refine h_move rfl rfl rfl rfl ?_; refine hx_plain rfl ?_)
      refine h_call rfl rfl rfl rfl rfl rfl rfl rfl EC.out (.cons .head .nil) (close_spec p bs (allB ls).length 0) ?_
      rintro u M ⟨rfl, rfl⟩
      rw [c16]
      (refine hx_plain rfl ?_; refine h_assign rfl rfl rfl rfl ?_; refine hx_nil ?_; refine hq_then ?_; refine hc_seq ?_; refine hc_lex ?_; refine hx_plain rfl ?_; refine h_move rfl rfl rfl rfl ?_; refine hx_plain rfl ?_)
      refine h_call rfl rfl rfl rfl rfl rfl rfl rfl EC.out (.cons .head .nil) (close_spec p bs (allB ls).length 16) ?_
      rintro u M ⟨rfl, rfl⟩
      rw [c17]
      (refine hx_plain rfl ?_; refine h_assign rfl rfl rfl rfl ?_; refine hx_nil ?_; refine hq_then ?_; refine hc_seq ?_; refine hc_lex ?_; refine hx_plain rfl ?_; refine h_move rfl rfl rfl rfl ?_; refine hx_plain rfl ?_)
      refine h_call rfl rfl rfl rfl rfl rfl rfl rfl EC.out (.cons .head .nil) (err_spec p bs (allB ls).length 16) ?_
      rintro u M ⟨rfl, rfl⟩
      (refine hx_plain rfl ?_; refine h_move rfl rfl rfl rfl ?_; refine hx_plain rfl ?_; refine h_extract rfl rfl rfl rfl rfl ?_; refine hx_plain rfl ?_; refine h_extract rfl rfl rfl rfl rfl ?_; refine hx_plain rfl ?_; refine h_assign rfl rfl rfl rfl ?_; refine hx_plain rfl ?_; refine h_assign rfl rfl rfl rfl ?_; refine hx_nil ?_; refine hq_then ?_; refine hc_seq ?_; refine hc_lex ?_; refine hx_plain rfl ?_; refine h_move rfl rfl rfl rfl ?_; refine hx_plain rfl ?_)
      refine h_callI hI hF rfl rfl rfl rfl rfl rfl rfl rfl EC.out (.cons .head .nil) (u32_all p bs (allB ls).length 16 big E g (by omega) (by omega)) ?_
      rintro u M ⟨rfl, rfl⟩
      rw [c18]
      (refine hx_plain rfl ?_; refine h_assign rfl rfl rfl rfl ?_; refine hx_nil ?_; refine hq_then ?_; refine hc_seq ?_; refine hc_seq ?_; refine hc_lex ?_; refine hx_plain rfl ?_; refine h_move rfl rfl rfl rfl ?_; refine hx_plain rfl ?_; refine h_len_slice rfl rfl rfl UC.out rfl rfl rfl ?_; refine hx_plain rfl ?_; refine h_cmp rfl rfl rfl rfl rfl rfl ?_; refine hx_plain rfl ?_; refine h_move rfl rfl rfl rfl ?_; refine hx_gT rfl rfl rfl (by omega) ?_; refine hx_yes rfl rfl rfl ?_; refine h_move rfl rfl rfl rfl ?_; refine hx_yes rfl rfl rfl ?_; refine h_cmp rfl rfl rfl rfl rfl rfl ?_; refine hx_plain rfl ?_; refine h_pickT rfl rfl rfl rfl rfl ?_; refine hx_nil ?_; refine hq_then ?_; refine hc_condF rfl ?_; refine hc_skip ?_; refine hq_then ?_; refine hc_seq ?_; refine hc_lex ?_; refine hx_plain rfl ?_; refine h_move rfl rfl rfl rfl ?_; refine hx_plain rfl ?_)
      refine h_callR rfl rfl rfl rfl rfl rfl EC.out ((num_spec 16).reads _) ?_
      (refine hx_plain rfl ?_; refine h_move rfl rfl rfl rfl ?_; refine hx_plain rfl ?_; refine h_cmp rfl rfl rfl rfl rfl rfl ?_; refine hx_plain rfl ?_; refine h_move rfl rfl rfl rfl ?_; refine hx_yes rfl rfl rfl ?_; refine h_move rfl rfl rfl rfl ?_; refine hx_yes rfl rfl rfl ?_)
      refine h_callR rfl rfl rfl rfl rfl rfl EC.out ((num_spec 16).reads _) ?_
      (refine hx_yes rfl rfl rfl ?_; refine h_move rfl rfl rfl rfl ?_; refine hx_yes rfl rfl rfl ?_; refine h_cmp rfl rfl rfl rfl rfl rfl ?_; refine hx_plain rfl ?_; refine h_pickT rfl rfl rfl rfl rfl ?_; refine hx_plain rfl ?_; refine h_move rfl rfl rfl rfl ?_; refine hx_yes rfl rfl rfl ?_; refine h_move rfl rfl rfl rfl ?_; refine hx_yes rfl rfl rfl ?_)
      refine h_callR rfl rfl rfl rfl rfl rfl EC.out ((num_spec 16).reads _) ?_
      (refine hx_yes rfl rfl rfl ?_; refine h_move rfl rfl rfl rfl ?_; refine hx_yes rfl rfl rfl ?_; refine h_cmp rfl rfl rfl rfl rfl rfl ?_; refine hx_plain rfl ?_; refine h_pickT rfl rfl rfl rfl rfl ?_; refine hx_plain rfl ?_; refine h_move rfl rfl rfl rfl ?_; refine hx_yes rfl rfl rfl ?_; refine h_move rfl rfl rfl rfl ?_; refine hx_yes rfl rfl rfl ?_; refine h_move rfl rfl rfl rfl ?_; refine hx_yes rfl rfl rfl ?_; refine h_cmp rfl rfl rfl rfl rfl rfl ?_; refine hx_plain rfl ?_; refine h_pickT rfl rfl rfl rfl rfl ?_; refine hx_plain rfl ?_; refine h_assign rfl rfl rfl rfl ?_; refine hx_nil ?_; refine hq_then ?_; refine hc_ret ?_)
      exact hq_ret1 (.inr rfl) rfl rfl ⟨by rw [decide_eq_true rfl], rfl⟩ (fun _ h => h.emp)
    · have c16 : CloseR bs (allB ls).length 0 = 0 := if_neg (fun h => by omega)
      have c18 : U32R bs (allB ls).length 0 big = (0, (allB ls).length, 11) := by unfold U32R; rw [if_neg (by decide), if_pos (by omega)]
      (refine hc_seq ?_; refine hc_lex ?_; refine hx_plain rfl ?_; refine h_move rfl rfl rfl rfl ?_; refine hx_plain rfl ?_)
      refine h_call rfl rfl rfl rfl rfl rfl rfl rfl EC.out (.cons .head .nil) (err_spec p bs (allB ls).length 0) ?_
      rintro u M ⟨rfl, rfl⟩
      (refine hx_plain rfl ?_; refine h_move rfl rfl rfl rfl ?_; refine hx_plain rfl ?_; refine h_extract rfl rfl rfl rfl rfl ?_; refine hx_plain rfl ?_; refine h_extract rfl rfl rfl rfl rfl ?_; refine hx_plain rfl ?_; refine h_assign rfl rfl rfl rfl ?_; refine hx_plain rfl ?_; refine h_assign rfl rfl rfl rfl ?_; refine hx_nil ?_; refine hq_then ?_; refine hc_seq ?_; refine hc_seq ?_; refine hc_lex ?_; refine hx_plain rfl ?_; refine h_move rfl rfl rfl rfl ?_; refine hx_plain rfl ?_)
      refine h_callR rfl rfl rfl rfl rfl rfl EC.out ((num_spec 0).reads _) ?_
      (refine hx_plain rfl ?_; refine h_cmp rfl rfl rfl rfl rfl rfl ?_; refine hx_plain rfl ?_; refine h_move rfl rfl rfl rfl ?_; refine hx_yes rfl rfl rfl ?_; refine h_move rfl rfl rfl rfl ?_; refine hx_yes rfl rfl rfl ?_; refine h_move rfl rfl rfl rfl ?_; refine hx_yes rfl rfl rfl ?_; refine h_cmp rfl rfl rfl rfl rfl rfl ?_; refine hx_plain rfl ?_; refine h_pickF rfl rfl rfl rfl rfl ?_; refine hx_nil ?_; refine hq_then ?_; refine hc_condDF rfl (by omega) ?_; refine hc_skip ?_; refine hq_then ?_; refine hc_seq ?_; refine hc_lex ?_; refine hx_plain rfl ?_; refine h_assign rfl rfl rfl rfl ?_; refine hx_nil ?_; refine hq_then ?_; refine hc_seq ?_; refine hc_seq ?_; refine hc_lex ?_; refine hx_plain rfl ?_; refine h_move rfl rfl rfl rfl ?_; refine hx_plain rfl ?_; refine h_len_slice rfl rfl rfl UC.out rfl rfl rfl ?_; refine hx_plain rfl ?_; refine h_cmp rfl rfl rfl rfl rfl rfl ?_; refine hx_nil ?_; refine hq_then ?_; refine hc_condDF rfl (by omega) ?_; refine hc_skip ?_; refine hq_then ?_; refine hc_seq ?_; refine hc_lex ?_; refine hx_plain rfl ?_; refine h_move rfl rfl rfl rfl ?_; refine hx_plain rfl ?_)
      refine h_call rfl rfl rfl rfl rfl rfl rfl rfl EC.out (.cons .head .nil) (close_spec p bs (allB ls).length 0) ?_
      rintro u M ⟨rfl, rfl⟩
      rw [c16]
      (refine hx_plain rfl ?_; refine h_assign rfl rfl rfl rfl ?_; refine hx_nil ?_; refine hq_then ?_; refine hc_seq ?_; refine hc_lex ?_; refine hx_plain rfl ?_; refine h_move rfl rfl rfl rfl ?_; refine hx_plain rfl ?_)
      refine h_call rfl rfl rfl rfl rfl rfl rfl rfl EC.out (.cons .head .nil) (close_spec p bs (allB ls).length 0) ?_
      rintro u M ⟨rfl, rfl⟩
      rw [c16]
      (refine hx_plain rfl ?_; refine h_assign rfl rfl rfl rfl ?_; refine hx_nil ?_; refine hq_then ?_; refine hc_seq ?_; refine hc_lex ?_; refine hx_plain rfl ?_; refine h_move rfl rfl rfl rfl ?_; refine hx_plain rfl ?_)
      refine h_call rfl rfl rfl rfl rfl rfl rfl rfl EC.out (.cons .head .nil) (err_spec p bs (allB ls).length 0) ?_
      rintro u M ⟨rfl, rfl⟩
      (refine hx_plain rfl ?_; refine h_move rfl rfl rfl rfl ?_; refine hx_plain rfl ?_; refine h_extract rfl rfl rfl rfl rfl ?_; refine hx_plain rfl ?_; refine h_extract rfl rfl rfl rfl rfl ?_; refine hx_plain rfl ?_; refine h_assign rfl rfl rfl rfl ?_; refine hx_plain rfl ?_; refine h_assign rfl rfl rfl rfl ?_; refine hx_nil ?_; refine hq_then ?_; refine hc_seq ?_; refine hc_lex ?_; refine hx_plain rfl ?_; refine h_move rfl rfl rfl rfl ?_; refine hx_plain rfl ?_)
      refine h_callI hI hF rfl rfl rfl rfl rfl rfl rfl rfl EC.out (.cons .head .nil) (u32_all p bs (allB ls).length 0 big E g (by omega) (by omega)) ?_
      rintro u M ⟨rfl, rfl⟩
      rw [c18]
      (refine hx_plain rfl ?_; refine h_assign rfl rfl rfl rfl ?_; refine hx_nil ?_; refine hq_then ?_; refine hc_seq ?_; refine hc_seq ?_; refine hc_lex ?_; refine hx_plain rfl ?_; refine h_move rfl rfl rfl rfl ?_; refine hx_plain rfl ?_; refine h_len_slice rfl rfl rfl UC.out rfl rfl rfl ?_; refine hx_plain rfl ?_; refine h_cmp rfl rfl rfl rfl rfl rfl ?_; refine hx_plain rfl ?_; refine h_move rfl rfl rfl rfl ?_; refine hx_gF rfl rfl rfl (by omega) ?_; refine hx_skip rfl rfl rfl rfl rfl rfl ?_; refine hx_skip rfl rfl rfl rfl rfl rfl ?_; refine hx_plain rfl ?_; refine h_pickF rfl rfl rfl rfl rfl ?_; refine hx_nil ?_; refine hq_then ?_; refine hc_condF rfl ?_; refine hc_skip ?_; refine hq_then ?_; refine hc_seq ?_; refine hc_lex ?_; refine hx_plain rfl ?_; refine h_move rfl rfl rfl rfl ?_; refine hx_plain rfl ?_)
      refine h_callR rfl rfl rfl rfl rfl rfl EC.out ((num_spec 0).reads _) ?_
      (refine hx_plain rfl ?_; refine h_move rfl rfl rfl rfl ?_; refine hx_plain rfl ?_; refine h_cmp rfl rfl rfl rfl rfl rfl ?_; refine hx_plain rfl ?_; refine h_move rfl rfl rfl rfl ?_; refine hx_yes rfl rfl rfl ?_; refine h_move rfl rfl rfl rfl ?_; refine hx_yes rfl rfl rfl ?_)
      refine h_callR rfl rfl rfl rfl rfl rfl EC.out ((num_spec 0).reads _) ?_
      (refine hx_yes rfl rfl rfl ?_; refine h_move rfl rfl rfl rfl ?_; refine hx_yes rfl rfl rfl ?_; refine h_cmp rfl rfl rfl rfl rfl rfl ?_; refine hx_plain rfl ?_; refine h_pickT rfl rfl rfl rfl rfl ?_; refine hx_plain rfl ?_; refine h_move rfl rfl rfl rfl ?_; refine hx_yes rfl rfl rfl ?_; refine h_move rfl rfl rfl rfl ?_; refine hx_yes rfl rfl rfl ?_)
      refine h_callR rfl rfl rfl rfl rfl rfl EC.out ((num_spec 0).reads _) ?_
      (refine hx_yes rfl rfl rfl ?_; refine h_move rfl rfl rfl rfl ?_; refine hx_yes rfl rfl rfl ?_; refine h_cmp rfl rfl rfl rfl rfl rfl ?_; refine hx_plain rfl ?_; refine h_pickT rfl rfl rfl rfl rfl ?_; refine hx_plain rfl ?_; refine h_move rfl rfl rfl rfl ?_; refine hx_yes rfl rfl rfl ?_; refine h_move rfl rfl rfl rfl ?_; refine hx_yes rfl rfl rfl ?_; refine h_move rfl rfl rfl rfl ?_; refine hx_yes rfl rfl rfl ?_; refine h_cmp rfl rfl rfl rfl rfl rfl ?_; refine hx_plain rfl ?_; refine h_pickT rfl rfl rfl rfl rfl ?_; refine hx_plain rfl ?_; refine h_assign rfl rfl rfl rfl ?_; refine hx_nil ?_; refine hq_then ?_; refine hc_ret ?_)
      exact hq_ret1 (.inr rfl) rfl rfl ⟨by rw [decide_eq_true rfl], rfl⟩ (fun _ h => h.emp)
end Go.Proofs.YtjnnlfeohbidhaaDoor
