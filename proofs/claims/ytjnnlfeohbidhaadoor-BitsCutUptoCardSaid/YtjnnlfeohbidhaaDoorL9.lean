import Derived.Test.YtjnnlfeohbidhaaDoorL8
namespace Go.Proofs.YtjnnlfeohbidhaaDoor
open Go Go.Proofs Go.RowKit
set_option maxRecDepth 4000

theorem drop_take_eq {bb : List Int} {cut at_ n : Nat} (h : at_ + n ≤ cut) : ((bb.take cut).drop at_).take n = (bb.drop at_).take n := by
  rw [List.drop_take, List.take_take, Nat.min_eq_left (by omega)]
/-- A field that is cut off. -/
theorem back_cut {w : World} {bb rest ds : List Int} {at_ cut : Nat} {t : ItM} (hok : ItOK w (t, ds)) (h : bb.drop at_ = itB t ds ++ rest) (hc1 : at_ ≤ cut) (hc2 : cut < at_ + (itB t ds).length) (hcl : cut ≤ bb.length) :
    (backR (bb.take cut) at_ 0 t ds).2 = (at_, 11) := by
  obtain ⟨hr, hk, hx, hx1, hlen⟩ := hok
  dsimp only at hr hk hx hx1 hlen
  have hl : (bb.take cut).length = cut := by rw [List.length_take]; omega
  have body : itB t ds = fieldB ds → BodyR (bb.take cut) at_ 0 (ds.length : Int) = ([], at_, 11) := fun e => by
    rw [e] at h hc2
    obtain ⟨n4, nb, hds, hp⟩ := body_at h hlen
    rw [fieldB_len] at hc2
    have hE : bodyE (bb.take cut) at_ (ds.length : Int) = 11 := by
      unfold bodyE
      rw [hl]
      by_cases h4 : cut < at_ + 4
      · rw [if_pos h4]
      · have n4' : N4 (bb.take cut) at_ = (ds.length : Int) := by
          rw [← n4]
          unfold N4
          rw [drop_take_eq (by omega)]
        have nb' : NB (bb.take cut) at_ = ds.length := by unfold NB; omega
        rw [if_neg h4, if_neg (by omega), nb']
        by_cases h5 : cut < at_ + 4 + ds.length
        · rw [if_pos h5]
        · rw [if_neg h5, if_pos (by omega)]
    unfold BodyR
    rw [if_neg (by simp), hE, if_neg (by decide)]
  by_cases k1 : t.k = 1
  · have e : itB t ds = dg (IntKind.u64.wrap t.x) 4 := if_pos k1
    rw [e, dg_len] at hc2
    unfold backR U32R
    rw [if_pos k1, hl, if_neg (by simp), if_pos (by omega)]
  by_cases k2 : t.k = 2
  · have e : itB t ds = dg (IntKind.u64.wrap t.x) 8 := by unfold itB; rw [if_neg k1, if_pos k2]
    rw [e, dg_len] at hc2
    unfold backR U64R
    rw [if_neg k1, if_pos k2, hl, if_neg (by simp), if_pos (by omega)]
  by_cases k3 : t.k = 3
  · have e : itB t ds = dg t.s 8 := by unfold itB; rw [if_neg k1, if_neg k2, if_pos k3]
    rw [e, dg_len] at hc2
    unfold backR SumR
    rw [if_neg k1, if_neg k2, if_pos k3, hl, if_neg (by simp), if_pos (by omega)]
  by_cases k4 : t.k = 4
  · have hb := body (by unfold itB; rw [if_neg k1, if_neg k2, if_neg k3, if_pos k4])
    unfold backR
    rw [if_neg k1, if_neg k2, if_neg k3, if_pos k4, hb]
  · have hb := body (by unfold itB; rw [if_neg k1, if_neg k2, if_neg k3, if_neg k4, if_pos (by omega)])
    unfold backR
    rw [if_neg k1, if_neg k2, if_neg k3, if_neg k4, hb]
theorem itB_pos {w : World} {t : ItM} {ds : List Int} (hok : ItOK w (t, ds)) : 0 < (itB t ds).length := by
  obtain ⟨hr, hk, hx, hx1, hlen⟩ := hok
  dsimp only at hk
  unfold itB
  split
  · rw [dg_len]; decide
  · split
    · rw [dg_len]; decide
    · split
      · rw [dg_len]; decide
      · split
        · rw [fieldB_len]; omega
        · rw [if_pos (by omega), fieldB_len]; omega
theorem froms_get {ls : List (ItM × List Int)} {i : Nat} (h : i < ls.length) : (froms ls)[i]? = some ((allB (ls.take i)).length : Int) := by
  unfold froms
  rw [List.getElem?_map, List.getElem?_range h]
  rfl
theorem h_remI2 {P : Program} {n : Nat} {ds : List Deferred} {ops : Array Oper} {ev wk : Nat → Bool} {K : Env → (World → Prop) → Prop} {r : List Oper} {o : Oper} {k : Nat} {e : Env} {C : World → Prop} {t t2 : TypeId} {x y : Operand} {a b : Int} (ho : o.op = .binOp .rem t x y t2) (hx : e.op x = some (.int .i64 a)) (hy : e.op y = some (.int .i64 b)) (hb : b ≠ 0)
    {dd : Nat} (hdst : o.dst = some dd) (hd : okD n (some dd) = true) (h : HX P n ds ops ev wk K r (k + 1) ((dd, .int .i64 (a.tmod b)) :: e) C) : HX1 P n ds ops ev wk K o r k e C :=
  h_rem ho hx hy hb hdst hd h
set_option maxHeartbeats 8000000 in
theorem bitscut_law {E : Addr} {g : Nat} {w : World} {v1 : Value} {items : List (ItM × List Int)} {ct : Int} (hI : Glo (gl E) g w) (h1 : Rd itE w v1 (items.map (·.1))) (hit : ∀ q ∈ items, ItR w q.1 q.2) (hct : -9223372036854775808 ≤ ct ∧ ct ≤ 9223372036854775807) :
    Calls Tryd.prog 7 [v1, .int .i64 ct].toArray w (fun en w' => en = .returned (.bool true) ∧ But w w' nowhere) := by
  have hF : ∀ b, nowhere b → g ≤ b := fun _ h => h.elim
  have hF1 : ∀ b, nowhere b → w.heap.size ≤ b := fun _ h => h.elim
  refine reads_of Tryd.func7 rfl rfl (Nat.le_of_ble_eq_true rfl) ?_
  (refine hc_seq ?_; refine hc_lex ?_; refine hx_plain rfl ?_; refine h_assign rfl rfl rfl rfl ?_; refine hx_nil ?_; refine hq_then ?_; refine hc_seq ?_; refine hc_lex ?_; refine hx_plain rfl ?_)
  refine h_callI hI hF rfl rfl rfl rfl rfl rfl rfl rfl EC.out .nil (head_spec E g) ?_
  rintro u M ⟨rfl, rfl⟩
  (refine hx_plain rfl ?_; refine h_assign rfl rfl rfl rfl ?_; refine hx_nil ?_; refine hq_then ?_; refine hc_seq ?_; refine hc_seq ?_; refine hc_lex ?_; refine hx_plain rfl ?_; refine h_move rfl rfl rfl rfl ?_; refine hx_plain rfl ?_; refine h_not rfl rfl rfl rfl ?_; refine hx_nil ?_; refine hq_then ?_; refine hc_condF rfl ?_; refine hc_skip ?_; refine hq_then ?_; refine hc_seq ?_; refine hc_lex ?_; refine hx_plain rfl ?_; refine h_move rfl rfl rfl rfl ?_; refine hx_plain rfl ?_)
  refine h_callW (post := fun u M => ∃ ls : List (ItM × List Int), (∀ q ∈ ls, ItOK w q) ∧ ls.length ≤ 200 ∧ M = [RowV itE 28 u (ls.map (·.1))]) rfl rfl rfl rfl rfl rfl rfl rfl EC.out (fun w' h => fit_makes (w0 := w) items (h.rd h1) hit) ?_
  rintro vl M ⟨ls, hok, hll, rfl⟩
  have hml : (ls.map (·.1)).length = ls.length := List.length_map ..
  have htl := allB_take_len (fun q hq => (hok q hq).len) hll
  have hbl : (allB ls).length ≤ 209716800 := by have := htl ls.length; rwa [List.take_length] at this
  have hbb : Byts (allB ls) := fun x hx => by
    obtain ⟨q, hq, hx⟩ := List.mem_flatMap.1 hx
    exact itB_byts (hok q hq).r.byts x hx
  (refine hx_plain rfl ?_; refine h_assign rfl rfl rfl rfl ?_; refine hx_nil ?_; refine hq_then ?_; refine hc_seq ?_; refine hc_lex ?_; refine hx_plain rfl ?_; refine h_move rfl rfl rfl rfl ?_; refine hx_plain rfl ?_)
  refine h_callW (post := fun u M => ∃ vb vf, u = .tuple #[vb, vf] ∧ M = [RowV byteE 5 vb (allB ls), RowV intE 3 vf (froms ls)]) rfl rfl rfl rfl rfl rfl rfl rfl EC.out (fun w' h => all_makes ls (h.rdRowV .head) (fun q hq => ⟨h.rd (hok q hq).r.rd, (hok q hq).r.byts, (hok q hq).len⟩) hll) ?_
  rintro u M ⟨vb, vf, rfl, rfl⟩
  (refine hx_plain rfl ?_; refine h_move rfl rfl rfl rfl ?_; refine hx_plain rfl ?_; refine h_extract rfl rfl rfl rfl rfl ?_; refine hx_plain rfl ?_; refine h_extract rfl rfl rfl rfl rfl ?_; refine hx_plain rfl ?_; refine h_assign rfl rfl rfl rfl ?_; refine hx_plain rfl ?_; refine h_assign rfl rfl rfl rfl ?_; refine hx_nil ?_; refine hq_then ?_)
  by_cases hl0 : ls = []
  · subst hl0
    (refine hc_seq ?_; refine hc_seq ?_; refine hc_lex ?_; refine hx_plain rfl ?_; refine h_move rfl rfl rfl rfl ?_; refine hx_plain rfl ?_)
    refine h_lenV rfl rfl .head rfl UC.out rfl rfl rfl ?_
    (refine hx_plain rfl ?_; refine h_cmp rfl rfl rfl rfl rfl rfl ?_; refine hx_nil ?_; refine hq_then ?_; refine hc_condT rfl ?_; refine hc_seq ?_; refine hc_lex ?_; refine hx_plain rfl ?_; refine h_move rfl rfl rfl rfl ?_; refine hx_plain rfl ?_)
    refine h_lenV rfl rfl (.tail (.tail .head)) rfl UC.out rfl rfl rfl ?_
    (refine hx_plain rfl ?_; refine h_cmp rfl rfl rfl rfl rfl rfl ?_; refine hx_plain rfl ?_; refine h_assign rfl rfl rfl rfl ?_; refine hx_nil ?_; refine hq_then ?_; refine hc_ret ?_; refine hq_ret_then ?_)
    exact hq_ret1 (.inr rfl) rfl rfl ⟨rfl, rfl⟩ (fun _ h => h.emp)
  have hpos : 0 < ls.length := List.length_pos_iff.2 hl0
  have hne : 0 < (allB ls).length := by
    have := allB_split hpos
    have h2 := congrArg List.length this
    have h3 : 0 < (itB ls[0].1 ls[0].2).length := itB_pos (hok ls[0] (List.getElem_mem hpos))
    simp only [List.length_append] at h2
    omega
  refine hc_seq ?_
  refine hc_rowV (.tail (.tail .head)) (fun _ h0 => ?_) (fun gl cl e0 => ?_)
  · exfalso
    have := congrArg List.length h0
    rw [hml, List.length_nil] at this
    omega
  subst e0
  rw [hml]
  refine hc_rowV (.tail .head) (fun e0 h0 => ?_) (fun gb cb e0 => ?_)
  · exfalso
    rw [h0] at hne
    exact absurd hne (Nat.lt_irrefl _)
  subst e0
  refine hc_know (fun _ h => h.row_le.1) (fun hcb => ?_)
  have hfl : (froms ls).length = ls.length := by unfold froms; rw [List.length_map, List.length_range]
  refine hc_rowV (.tail (.tail .head)) (fun e0 h0 => ?_) (fun gf cf e0 => ?_)
  · exfalso
    have := congrArg List.length h0
    rw [hfl, List.length_nil] at this
    omega
  subst e0
  rw [hfl]
  obtain ⟨n, hn⟩ : ∃ n, (allB ls).length = n := ⟨_, rfl⟩
  rw [hn] at hne hbl hcb
  rw [hn]
  have ht1 : -(n : Int) < ct.tmod n ∧ ct.tmod n < (n : Int) := by
    have h1 := Int.tmod_lt_of_pos ct (show (0 : Int) < (n : Int) by omega)
    have h2 := Int.lt_tmod_of_pos ct (show (0 : Int) < (n : Int) by omega)
    omega
  (refine hc_seq ?_; refine hc_lex ?_; refine hx_plain rfl ?_; refine h_move rfl rfl rfl rfl ?_; refine hx_plain rfl ?_; refine h_len_slice rfl rfl rfl UC.out rfl rfl rfl ?_; refine hx_plain rfl ?_; refine h_cmp rfl rfl rfl rfl rfl rfl ?_; refine hx_nil ?_; refine hq_then ?_; refine hc_condDF rfl (by omega) ?_; refine hc_skip ?_; refine hq_then ?_; refine hc_seq ?_; refine hc_lex ?_; refine hx_plain rfl ?_; refine h_move rfl rfl rfl rfl ?_; refine hx_plain rfl ?_; refine h_move rfl rfl rfl rfl ?_; refine hx_plain rfl ?_; refine h_len_slice rfl rfl rfl UC.out rfl rfl rfl ?_; refine hx_plain rfl ?_)
  refine h_remI2 rfl rfl rfl (by omega) rfl rfl ?_
  (refine hx_plain rfl ?_; refine h_move rfl rfl rfl rfl ?_; refine hx_plain rfl ?_; refine h_len_slice rfl rfl rfl UC.out rfl rfl rfl ?_; refine hx_plain rfl ?_; refine h_arithI rfl rfl rfl rfl (by omega) rfl rfl ?_; refine hx_plain rfl ?_; refine h_move rfl rfl rfl rfl ?_; refine hx_plain rfl ?_; refine h_len_slice rfl rfl rfl UC.out rfl rfl rfl ?_; refine hx_plain rfl ?_; refine h_remI rfl rfl rfl (by omega) rfl rfl ?_; refine hx_plain rfl ?_; refine h_assign rfl rfl rfl rfl ?_; refine hx_nil ?_; refine hq_then ?_; refine hc_seq ?_; refine hc_lex ?_; refine hx_plain rfl ?_; refine h_move rfl rfl rfl rfl ?_; refine hx_plain rfl ?_; refine h_move rfl rfl rfl rfl ?_; refine hx_plain rfl ?_)
  obtain ⟨cut, hcut⟩ : ∃ cut : Nat, (ct.tmod n + n) % n = (cut : Int) := ⟨((ct.tmod n + n) % n).toNat, by
    have := Int.emod_nonneg (ct.tmod n + n) (show (n : Int) ≠ 0 by omega)
    omega⟩
  have hcut2 : cut < n := by
    have := Int.emod_lt_of_pos (ct.tmod n + n) (show (0 : Int) < (n : Int) by omega)
    omega
  rw [hcut]
  have hcbl : cut ≤ cb := by omega
  refine h_sliceTo rfl rfl rfl UC.out IC.size (by omega) rfl rfl ?_
  (refine hx_plain rfl ?_)
  obtain ⟨bs, hbs⟩ : ∃ bs, (allB ls).take cut = bs := ⟨_, rfl⟩
  have hbsl : bs.length = cut := by rw [← hbs, List.length_take]; omega
  have hby : Byts bs := by rw [← hbs]; intro x hx; exact hbb x (List.mem_of_mem_take hx)
  refine h_callW (post := fun u M => ∃ p, u = .pointer (some ⟨p, 0, none⟩) ∧ M = [RdrO p bs 0 0 0]) rfl rfl rfl rfl rfl rfl rfl rfl EC.out (fun w' h => by
    have hr := h.rdRow (.tail .head)
    rw [hn] at hr
    have hr2 := hr.takeN (n := cut) (by omega)
    rw [hbs] at hr2
    exact newReader_makes hr2 (by omega)) ?_
  rintro u M ⟨p, rfl, rfl⟩
  (refine hx_plain rfl ?_; refine h_assign rfl rfl rfl rfl ?_; refine hx_nil ?_; refine hq_then ?_; refine hc_seq ?_; refine hc_seq ?_; refine hc_lex ?_; refine hx_plain rfl ?_; refine h_assign rfl rfl rfl rfl ?_; refine hx_nil ?_; refine hq_then ?_; refine hc_block ?_)
  refine hc_cut (id := 0) (Y := Empty) (fun y => nomatch y) (fun y => nomatch y) (fun _ => True) ?_ (fun y => nomatch y)
  refine hc_loop (X := Nat) (fun i => [(1, .int .i64 (cut : Int)), (6, .slice (some ⟨gl, 0, none⟩) ls.length cl), (7, .slice (some ⟨gb, 0, none⟩) n cb), (8, .slice (some ⟨gf, 0, none⟩) ls.length cf), (9, .pointer (some ⟨p, 0, none⟩)), (10, .int .i64 (i : Int))]) (fun i => [RdrX p bs (allB (ls.take i)).length 0, Row intE 3 gf cf (froms ls), Row itE 28 gl cl (ls.map (·.1))]) (fun i => i ≤ ls.length ∧ (allB (ls.take i)).length ≤ cut) (fun i => ls.length - i) 0 (.cons rfl (.cons rfl (.cons rfl (.cons rfl (.cons rfl (.cons rfl .nil)))))) ⟨Nat.zero_le _, Nat.zero_le _⟩ (fun _ h => (RdrO.toX (h.sub (.cons .head (.cons .head (.cons (.tail .head) .nil)))))) ?_
  rintro i ⟨hi, hic⟩
  by_cases hlt : i < ls.length
  case neg =>
    exfalso
    rw [List.take_of_length_le (by omega), hn] at hic
    omega
  obtain ⟨⟨t, ds⟩, hq⟩ : ∃ q, ls[i] = q := ⟨_, rfl⟩
  have e1 : (ls.map (·.1))[((i : Nat) : Int).toNat]? = some t := by
    rw [List.getElem?_map, show ((i : Nat) : Int).toNat = i by omega, List.getElem?_eq_getElem hlt, hq]
    rfl
  have e2 : (froms ls)[((i : Nat) : Int).toNat]? = some ((allB (ls.take i)).length : Int) := by
    rw [show ((i : Nat) : Int).toNat = i by omega]
    exact froms_get hlt
  have hq2 := hok _ (List.getElem_mem hlt)
  rw [hq] at hq2
  have hs := allB_split hlt
  rw [hq] at hs
  dsimp only at hs
  have hd0 : (allB ls).drop (allB (ls.take i)).length = itB t ds ++ allB (ls.drop (i + 1)) := by rw [hs, drop_at]
  have hnx : (allB (ls.take (i + 1))).length = (allB (ls.take i)).length + (itB t ds).length := by rw [allB_succ hlt, List.length_append, hq]
  have hnl : (allB (ls.take i)).length + (itB t ds).length + (allB (ls.drop (i + 1))).length = n := by
    have := congrArg List.length hs
    simp only [List.length_append] at this
    omega
  obtain ⟨en, hen⟩ : ∃ en, (allB (ls.take (i + 1))).length = en := ⟨_, rfl⟩
  refine hc_seq ?_
  refine hc_seq ?_
  refine hc_lex ?_
  (refine hx_plain rfl ?_; refine h_move rfl rfl rfl rfl ?_; refine hx_plain rfl ?_; refine h_move rfl rfl rfl rfl ?_; refine hx_plain rfl ?_; refine h_len_slice rfl rfl rfl UC.out rfl rfl rfl ?_; refine hx_plain rfl ?_; refine h_cmp rfl rfl rfl rfl rfl rfl ?_; refine hx_nil ?_; refine hq_then ?_)
  refine hc_condDT rfl (by omega) ?_
  refine hc_skip ?_
  refine hq_then ?_
  refine hc_seq ?_
  refine hc_block ?_
  refine hc_seq ?_
  refine hc_lex ?_
  (refine hx_plain rfl ?_; refine h_move rfl rfl rfl rfl ?_; refine hx_plain rfl ?_; refine h_len_slice rfl rfl rfl UC.out rfl rfl rfl ?_; refine hx_plain rfl ?_; refine h_assign rfl rfl rfl rfl ?_; refine hx_nil ?_; refine hq_then ?_)
  refine hc_meet (Y := Unit) (fun _ => [(1, .int .i64 (cut : Int)), (6, .slice (some ⟨gl, 0, none⟩) ls.length cl), (7, .slice (some ⟨gb, 0, none⟩) n cb), (8, .slice (some ⟨gf, 0, none⟩) ls.length cf), (9, .pointer (some ⟨p, 0, none⟩)), (10, .int .i64 (i : Int)), (11, .int .i64 (en : Int))]) (fun _ => [RdrX p bs (allB (ls.take i)).length 0, Row intE 3 gf cf (froms ls), Row itE 28 gl cl (ls.map (·.1))]) (fun _ => True) ?_ ?_
  · by_cases hi1 : i + 1 < ls.length
    · have e3 : (froms ls)[((i : Int) + 1).toNat]? = some (en : Int) := by
        rw [show ((i : Int) + 1).toNat = i + 1 by omega, froms_get hi1, hen]
      (refine hc_seq ?_; refine hc_lex ?_; refine hx_plain rfl ?_; refine h_move rfl rfl rfl rfl ?_; refine hx_plain rfl ?_; refine h_arithI rfl rfl rfl rfl (by omega) rfl rfl ?_; refine hx_plain rfl ?_; refine h_move rfl rfl rfl rfl ?_; refine hx_plain rfl ?_; refine h_len_slice rfl rfl rfl UC.out rfl rfl rfl ?_; refine hx_plain rfl ?_; refine h_cmp rfl rfl rfl rfl rfl rfl ?_; refine hx_nil ?_; refine hq_then ?_; refine hc_condDT rfl (by omega) ?_; refine hc_lex ?_; refine hx_plain rfl ?_; refine h_move rfl rfl rfl rfl ?_; refine hx_plain rfl ?_; refine h_move rfl rfl rfl rfl ?_; refine hx_plain rfl ?_; refine h_arithI rfl rfl rfl rfl (by omega) rfl rfl ?_; refine hx_plain rfl ?_; refine h_rowAddr rfl rfl rfl UC.out IC.size (by omega) (by omega) rfl rfl ?_; refine hx_plain rfl ?_; refine h_rowLoad1 rfl (.tail .head) rfl UC.out rfl (by with_reducible assumption) rfl rfl rfl ?_; refine hx_plain rfl ?_; refine h_assign rfl rfl rfl rfl ?_; refine hx_nil ?_)
      exact hq_met () trivial (.cons rfl (.cons rfl (.cons rfl (.cons rfl (.cons rfl (.cons rfl (.cons rfl .nil))))))) (fun _ h => h)
    · have e3 : en = n := by
        rw [← hen, List.take_of_length_le (by omega), hn]
      rw [e3]
      (refine hc_seq ?_; refine hc_lex ?_; refine hx_plain rfl ?_; refine h_move rfl rfl rfl rfl ?_; refine hx_plain rfl ?_; refine h_arithI rfl rfl rfl rfl (by omega) rfl rfl ?_; refine hx_plain rfl ?_; refine h_move rfl rfl rfl rfl ?_; refine hx_plain rfl ?_; refine h_len_slice rfl rfl rfl UC.out rfl rfl rfl ?_; refine hx_plain rfl ?_; refine h_cmp rfl rfl rfl rfl rfl rfl ?_; refine hx_nil ?_; refine hq_then ?_; refine hc_condDF rfl (by omega) ?_; refine hc_skip ?_)
      exact hq_met () trivial (.cons rfl (.cons rfl (.cons rfl (.cons rfl (.cons rfl (.cons rfl (.cons rfl .nil))))))) (fun _ h => h)
  · rintro ⟨⟩ _
    by_cases hcase : en > cut
    · have hR := back_cut (w := w) (bb := allB ls) (cut := cut) hq2 hd0 hic (by omega) (by omega)
      rw [hbs] at hR
      (refine hc_seq ?_; refine hc_seq ?_; refine hc_lex ?_; refine hx_plain rfl ?_; refine h_move rfl rfl rfl rfl ?_; refine hx_plain rfl ?_; refine h_move rfl rfl rfl rfl ?_; refine hx_plain rfl ?_; refine h_cmp rfl rfl rfl rfl rfl rfl ?_; refine hx_nil ?_; refine hq_then ?_; refine hc_condDT rfl (by omega) ?_; refine hc_seq ?_; refine hc_lex ?_; refine hx_plain rfl ?_; refine h_move rfl rfl rfl rfl ?_; refine hx_plain rfl ?_; refine h_move rfl rfl rfl rfl ?_; refine hx_plain rfl ?_; refine h_move rfl rfl rfl rfl ?_; refine hx_plain rfl ?_; refine h_rowAddr rfl rfl rfl UC.out IC.size (by omega) (by omega) rfl rfl ?_; refine hx_plain rfl ?_; refine h_rowLoadN rfl (.tail (.tail .head)) rfl UC.out rfl IC.size (by with_reducible assumption) rfl rfl rfl ?_; refine hx_plain rfl ?_)
      refine h_callB (.refl w nowhere) hF1 rfl rfl rfl rfl rfl rfl rfl rfl EC.out (.cons .head .nil) (back_spec hI p bs (allB (ls.take i)).length 0 t ds hq2.r.rd hby (by omega) (by omega)) ?_
      rintro u M ⟨rfl, rfl⟩
      rw [hR]
      (refine hx_nil ?_; refine hq_then ?_; refine hc_seq ?_; refine hc_lex ?_; refine hx_plain rfl ?_; refine h_move rfl rfl rfl rfl ?_; refine hx_plain rfl ?_)
      refine h_call rfl rfl rfl rfl rfl rfl rfl rfl EC.out (.cons .head .nil) (err_spec p bs (allB (ls.take i)).length 11) ?_
      rintro u M ⟨rfl, rfl⟩
      (refine hx_plain rfl ?_; refine h_move rfl rfl rfl rfl ?_; refine hx_plain rfl ?_; refine h_extract rfl rfl rfl rfl rfl ?_; refine hx_plain rfl ?_; refine h_extract rfl rfl rfl rfl rfl ?_; refine hx_plain rfl ?_; refine h_assign rfl rfl rfl rfl ?_; refine hx_plain rfl ?_; refine h_assign rfl rfl rfl rfl ?_; refine hx_nil ?_; refine hq_then ?_; refine hc_seq ?_; refine hc_lex ?_; refine hx_plain rfl ?_; refine h_move rfl rfl rfl rfl ?_; refine hx_plain rfl ?_)
      refine h_call rfl rfl rfl rfl rfl rfl rfl rfl EC.out (.cons .head .nil) (close_spec p bs (allB (ls.take i)).length 11) ?_
      rintro u M ⟨rfl, rfl⟩
      rw [show CloseR bs (allB (ls.take i)).length 11 = 11 from if_neg (fun h => absurd h.1 (by decide))]
      (refine hx_plain rfl ?_; refine h_assign rfl rfl rfl rfl ?_; refine hx_nil ?_; refine hq_then ?_; refine hc_seq ?_; refine hc_lex ?_; refine hx_plain rfl ?_; refine h_move rfl rfl rfl rfl ?_; refine hx_plain rfl ?_)
      refine h_callR rfl rfl rfl rfl rfl rfl EC.out ((num_spec 11).reads _) ?_
      (refine hx_plain rfl ?_; refine h_cmp rfl rfl rfl rfl rfl rfl ?_; refine hx_plain rfl ?_; refine h_move rfl rfl rfl rfl ?_; refine hx_yes rfl rfl rfl ?_; refine h_move rfl rfl rfl rfl ?_; refine hx_yes rfl rfl rfl ?_; refine h_move rfl rfl rfl rfl ?_; refine hx_yes rfl rfl rfl ?_; refine h_move rfl rfl rfl rfl ?_; refine hx_yes rfl rfl rfl ?_; refine h_rowAddr rfl rfl rfl UC.out IC.size (by omega) (by omega) rfl rfl ?_; refine hx_yes rfl rfl rfl ?_; refine h_rowLoad1 rfl (.tail .head) rfl UC.out rfl (by with_reducible assumption) rfl rfl rfl ?_; refine hx_yes rfl rfl rfl ?_; refine h_cmp rfl rfl rfl rfl rfl rfl ?_; refine hx_plain rfl ?_; refine h_pickT rfl rfl rfl rfl rfl ?_; refine hx_plain rfl ?_; refine h_move rfl rfl rfl rfl ?_; refine hx_gT rfl rfl rfl (by omega) ?_; refine hx_yes rfl rfl rfl ?_; refine h_move rfl rfl rfl rfl ?_; refine hx_yes rfl rfl rfl ?_)
      refine h_callR rfl rfl rfl rfl rfl rfl EC.out ((num_spec 11).reads _) ?_
      (refine hx_yes rfl rfl rfl ?_; refine h_cmp rfl rfl rfl rfl rfl rfl ?_; refine hx_plain rfl ?_; refine h_pickT rfl rfl rfl rfl rfl ?_; refine hx_plain rfl ?_; refine h_assign rfl rfl rfl rfl ?_; refine hx_nil ?_; refine hq_then ?_; refine hc_ret ?_; refine hq_ret_then ?_; refine hq_ret_block ?_; refine hq_ret_then ?_; refine hq_ret_then ?_; refine hq_cut_ret ?_; refine hq_ret_block ?_; refine hq_ret_then ?_)
      exact hq_ret1 (.inr rfl) rfl rfl ⟨rfl, rfl⟩ (fun _ h => h.emp)
    · have hd : bs.drop (allB (ls.take i)).length = itB t ds ++ (allB (ls.drop (i + 1))).take (cut - en) := by
        rw [← hbs, List.drop_take, hd0, List.take_append]
        rw [List.take_of_length_le (by omega)]
        congr 2
        omega
      have hR := back_ok hq2 hd (by omega)
      (refine hc_seq ?_; refine hc_seq ?_; refine hc_lex ?_; refine hx_plain rfl ?_; refine h_move rfl rfl rfl rfl ?_; refine hx_plain rfl ?_; refine h_move rfl rfl rfl rfl ?_; refine hx_plain rfl ?_; refine h_cmp rfl rfl rfl rfl rfl rfl ?_; refine hx_nil ?_; refine hq_then ?_; refine hc_condDF rfl (by omega) ?_; refine hc_skip ?_; refine hq_then ?_; refine hc_seq ?_; refine hc_lex ?_; refine hx_plain rfl ?_; refine h_move rfl rfl rfl rfl ?_; refine hx_plain rfl ?_; refine h_move rfl rfl rfl rfl ?_; refine hx_plain rfl ?_; refine h_move rfl rfl rfl rfl ?_; refine hx_plain rfl ?_; refine h_rowAddr rfl rfl rfl UC.out IC.size (by omega) (by omega) rfl rfl ?_; refine hx_plain rfl ?_; refine h_rowLoadN rfl (.tail (.tail .head)) rfl UC.out rfl IC.size (by with_reducible assumption) rfl rfl rfl ?_; refine hx_plain rfl ?_)
      refine h_callB (.refl w nowhere) hF1 rfl rfl rfl rfl rfl rfl rfl rfl EC.out (.cons .head .nil) (back_spec hI p bs (allB (ls.take i)).length 0 t ds hq2.r.rd hby (by omega) (by omega)) ?_
      rintro u M ⟨rfl, rfl⟩
      rw [hR, ← hnx]
      (refine hx_plain rfl ?_; refine h_assign rfl rfl rfl rfl ?_; refine hx_nil ?_; refine hq_then ?_; refine hc_seq ?_; refine hc_lex ?_; refine hx_plain rfl ?_; refine h_move rfl rfl rfl rfl ?_; refine hx_plain rfl ?_; refine h_not rfl rfl rfl rfl ?_; refine hx_nil ?_; refine hq_then ?_; refine hc_condF rfl ?_; refine hc_skip ?_; refine hq_norm_block ?_; refine hq_then ?_; refine hc_lex ?_; refine hx_plain rfl ?_; refine h_move rfl rfl rfl rfl ?_; refine hx_plain rfl ?_; refine h_arithI rfl rfl rfl rfl (by omega) rfl rfl ?_; refine hx_plain rfl ?_; refine h_assign rfl rfl rfl rfl ?_; refine hx_nil ?_)
      exact hq_round (i + 1) (by omega) ⟨by omega, by omega⟩ (.cons rfl (.cons rfl (.cons rfl (.cons rfl (.cons rfl (.cons rfl .nil)))))) (fun _ h => h)
end Go.Proofs.YtjnnlfeohbidhaaDoor
