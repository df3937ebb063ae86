import Derived.Test.YtbfmmgbfliebhaaN21
namespace Go.Proofs.Ytbfmmgbfliebhaa
open Go Go.Proofs Go.RowKit
set_option maxRecDepth 4000

section
variable {X : Type} {P : Program} {n : Nat} {ds : List Deferred} {ops : Array Oper} {ev wk : Nat → Bool} {K : Env → (World → Prop) → Prop} {r : List Oper} {o : Oper} {k : Nat} {e : Env} {w0 : World} {F0 : Nat → Prop} {L L' : List Asn} {E : Elem X} {T : Nat} {xs : List X}
/-- append(s, t...) of what is only read: an array comes of it. -/
theorem h_appendRdR {x y : Operand} {t by_ : Nat} {zv : Value} {v vy : Value} {ys : List X} (hev : ev k = true) (hwk : wk k = false)
    (ho : o.op = .call { callee := .builtin .append, args := #[x, y], argTypes := #[t, t] }) (hx : e.op x = some v) (hy : e.op y = some vy) (hu : P.underlying t = some (.slice T)) (hi : ∃ i, P.info? T = some i ∧ i.size = E.sz ∧ i.bytes = by_ ∧ i.zero = some zv) (hzv : zv.cells.size = E.sz)
    (hp : Pull L (RowV E T v xs) L') (hr : ∀ w, St w0 F0 L w → Rd E w vy ys) (hy0 : ys ≠ [])
    (h63 : xs.length + ys.length ≤ maxLen) (hbytes : (xs.length + ys.length) * by_ ≤ 140737488355328) {dd : Nat} (hdst : o.dst = some dd) (hd : okD n (some dd) = true)
    (h : ∀ g' cap', HX P n ds ops ev wk K r (k + 1) ((dd, .slice (some ⟨g', 0, none⟩) (xs ++ ys).length cap') :: e) (St w0 F0 (Row E T g' cap' (xs ++ ys) :: L'))) : HX1 P n ds ops ev wk K o r k e (St w0 F0 L) :=
  hx1_event hev (fun a w ha hC => by
    obtain ⟨ya, yc, rfl, y1, y2, y3⟩ := hr w hC
    obtain ⟨gb, ob, rfl, hcell⟩ := y3.resolve_left hy0
    have hC' : St w0 F0 (RowV E T v xs :: L') w := hC.perm hp.perm
    obtain ⟨F1, hrow, hput⟩ := hC'.split1
    obtain ⟨i, i1, i2, i3, i4⟩ := hi
    obtain ⟨fl, hown, hfl, hF1⟩ := RowV.owns hrow
    have hnl : (ys.flatMap E.enc).length = ys.length * E.sz := enc_len E ys
    have hnc : ∀ j u, (ys.flatMap E.enc)[j]? = some u → w.cell? ((⟨gb, ob, none⟩ : Addr).add j) = some u := fun j u hj => by
      obtain ⟨i, q, j', h1, h2, rfl⟩ := enc_of E _ _ _ hj
      rw [add_lit, ← Nat.add_assoc]
      exact hcell i q h1 j' u h2
    have h1c : ∀ u ∈ ys.flatMap E.enc, u.oneCell' = true := fun u hu => by
      obtain ⟨q, _, hq⟩ := List.mem_flatMap.1 hu
      exact E.one q u hq
    obtain ⟨v', w', hrun, hown', hgr, hnil⟩ := run_append_own (P := P) (w := w) 0 t o.type T i zv E.sz by_ hu i1 i4 i2 i3 hzv E.pos v xs.length fl hown ⟨gb, ob, none⟩ ys.length yc (ys.flatMap E.enc) hnl hnc h1c h63 hbytes (Nat.zero_le _)
    have : (execOp a.eval o).run P w = .ok (.value v') w' := by
      simp [execOp, ho, resolve, invoke, builtin, ha.eval hx, ha.eval hy, hrun]
    unfold Oper.wp
    rw [this]
    have hst : St w0 F0 (RowV E T v' (xs ++ ys) :: L') w' := by
      refine hput w' [RowV E T v' (xs ++ ys)] ?_
      have hown2 : w'.ownsRow 0 T E.sz v' (xs ++ ys).length (fl ++ ys.flatMap E.enc) := by rw [List.length_append]; exact hown'
      have hnew := RowV.of_owns (E := E) (xs := xs ++ ys) hown2 (fun i q hq j u hj => by
        have hjs : j < E.sz := by
          have := (List.getElem?_eq_some_iff.1 hj).1
          rwa [E.len] at this
        rcases Nat.lt_or_ge i xs.length with hlt | hge
        · rw [List.getElem?_append_left hlt] at hq
          rw [List.getElem?_append_left (by rw [hown.1]; exact row_lt hlt hjs)]
          exact hfl i q hq j u hj
        · rw [List.getElem?_append_right hge] at hq
          have hle : fl.length ≤ i * E.sz + j := by rw [hown.1]; exact Nat.le_trans (Nat.mul_le_mul_right _ hge) (Nat.le_add_right _ _)
          rw [List.getElem?_append_right hle, hown.1]
          have := enc_at E ys (i - xs.length) q hq j u hj
          rw [← this]
          congr 1
          rw [Nat.sub_mul]
          have := Nat.mul_le_mul_right E.sz hge
          omega)
      refine st_one hnew ⟨hgr.os, hgr.tape, hgr.output, hgr.size, fun j hj hn => hgr.block j hj fun e => hn ((hF1 j).1 e.symm)⟩ (fun x hx => ?_)
      rcases append_block (P := P) hu i1 i4 i2 i3 hzv E.pos hown hnl hnc h1c h63 hbytes hrun x hx with h | h
      · exact .inl ((hF1 x).1 h)
      · exact .inr h
    rcases St.rowV.1 hst with ⟨_, e1, _⟩ | ⟨g', cap', rfl, hst'⟩
    · exact absurd (List.append_eq_nil_iff.1 e1).2 hy0
    · exact ⟨_, _, hst', (fun h => by rw [hwk] at h; cases h), by rw [hdst]; exact ha.put hd _, h g' cap'⟩)
end
def ptrE : Elem Nat where
  sz := 1
  pos := by decide
  enc p := [.pointer (some ⟨p, 0, none⟩)]
  len _ := rfl
  one q v hv := by
    simp at hv
    subst hv
    rfl
/-- One of many plays. -/
structure PyD where
  p : Nat
  s0 : NS
  s1 : NS
  ents : List KtM
  st : Int
  lg : Bool
def PyD.pc (d : PyD) : Asn := PlO d.p 0 d.s0 d.s1 d.ents d.st d.lg
def pySh (l : List PyD) : Asn := All (l.map PyD.pc)
theorem pySh_erase {l : List PyD} {k : Nat} {d : PyD} (h : l[k]? = some d) {w w0 : World} {F0 : Nat → Prop} {R : List Asn} (hs : St w0 F0 (pySh l :: R) w) : St w0 F0 (d.pc :: pySh (l.eraseIdx k) :: R) w :=
  shl_cons (shl_perm (M' := (d :: l.eraseIdx k).map PyD.pc) ((shl_erase h).map PyD.pc) hs)
theorem pySh_put {l : List PyD} {k : Nat} {d d' : PyD} (hk : l[k]? = some d) {w w0 : World} {F0 : Nat → Prop} {R : List Asn} (h : St w0 F0 (d'.pc :: pySh (l.eraseIdx k) :: R) w) : St w0 F0 (pySh (l.set k d') :: R) w := by
  have hl := (List.getElem?_eq_some_iff.1 hk).1
  have hk2 : (l.set k d')[k]? = some d' := by rw [List.getElem?_set, if_pos rfl, if_pos hl]
  refine shl_perm (M := (d' :: (l.set k d').eraseIdx k).map PyD.pc) (((shl_erase hk2).map PyD.pc).symm) (shl_mk ?_)
  rw [set_eraseIdx]
  exact h
theorem pySh_snoc {l : List PyD} {d : PyD} {w w0 : World} {F0 : Nat → Prop} {R : List Asn} (h : St w0 F0 (pySh l :: d.pc :: R) w) : St w0 F0 (pySh (l ++ [d]) :: R) w := by
  unfold pySh
  rw [List.map_append]
  exact shl_snoc h
theorem map_set_p {l : List PyD} {k : Nat} {d d' : PyD} (hk : l[k]? = some d) (hp : d'.p = d.p) : (l.set k d').map PyD.p = l.map PyD.p := by
  rw [List.map_set, hp]
  apply List.ext_getElem?
  intro j
  rw [List.getElem?_set]
  split
  · rename_i e
    subst e
    rw [if_pos (by rw [List.length_map]; exact (List.getElem?_eq_some_iff.1 hk).1), List.getElem?_map, hk]
    rfl
  · rfl
theorem pySh_back {l : List PyD} {k : Nat} {d : PyD} (hk : l[k]? = some d) {w w0 : World} {F0 : Nat → Prop} {R : List Asn} (h : St w0 F0 (d.pc :: pySh (l.eraseIdx k) :: R) w) : St w0 F0 (pySh l :: R) w :=
  shl_perm (M := (d :: l.eraseIdx k).map PyD.pc) (((shl_erase hk).map PyD.pc).symm) (shl_mk h)
/-- A play is put back. -/
theorem py_back {l : List PyD} {k : Nat} {d d' : PyD} {g lc : Nat} (hk : l[k]? = some d) (hp : d'.p = d.p) (hl : l.length = 10) {w w0 : World} {F0 : Nat → Prop} (h : St w0 F0 (d'.pc :: Row ptrE 55 g lc (l.map PyD.p) :: pySh (l.eraseIdx k) :: []) w) : St w0 F0 [RowV ptrE 55 (.slice (some ⟨g, 0, none⟩) 10 lc) ((l.set k d').map PyD.p), pySh (l.set k d')] w := by
  have h1 := pySh_put hk (h.perm ((List.Perm.swap _ _ _).cons _))
  have h2 := (h1.perm (List.Perm.swap _ _ _)).rowV_mk
  rw [List.length_map, hl] at h2
  rw [map_set_p hk hp]
  exact h2
/-- What is known of each play. -/
structure PyI (d : PyD) (n : Int) : Prop where
  h0 : NInv d.s0 n
  h1 : NInv d.s1 n
  en : d.ents.length ≤ 903
set_option maxHeartbeats 8000000 in
theorem many_law {xs : List (OpN × List Int)} {w : World} {v0 : Value} (h0 : Rd opE w v0 (xs.map (·.1))) (hx : ∀ q ∈ xs, OpR w q) (hxl : xs.length ≤ 140737488351232) :
    Calls Try.prog 8 [v0].toArray w (fun en w' => en = .returned (.bool true) ∧ But w w' nowhere) := by
  obtain ⟨a0, c0, rfl, l0, m0, k0⟩ := id h0
  rw [List.length_map] at l0
  unfold maxLen at m0
  refine reads_of Try.func8 rfl rfl (Nat.le_of_ble_eq_true rfl) ?_
  have hB : But w w nowhere := .refl w _
  have hF : ∀ b, nowhere b → w.heap.size ≤ b := fun _ h => h.elim
  rw [List.length_map]
  (refine hc_seq ?_; refine hc_lex ?_; refine hx_plain rfl ?_; refine h_assign rfl rfl rfl rfl ?_; refine hx_nil ?_; refine hq_then ?_; refine hc_seq ?_; refine hc_lex ?_; refine hx_plain rfl ?_)
  refine h_call rfl rfl rfl rfl rfl rfl rfl rfl EC.out .nil known_spec ?_
  rintro u M ⟨rfl, rfl⟩
  (refine hx_plain rfl ?_; refine h_assign rfl rfl rfl rfl ?_; refine hx_nil ?_; refine hq_then ?_; refine hc_seq ?_; refine hc_seq ?_; refine hc_lex ?_; refine hx_plain rfl ?_; refine h_move rfl rfl rfl rfl ?_; refine hx_plain rfl ?_; refine h_not rfl rfl rfl rfl ?_; refine hx_nil ?_; refine hq_then ?_; refine hc_condF rfl ?_; refine hc_skip ?_; refine hq_then ?_; refine hc_seq ?_; refine hc_lex ?_; refine hx_plain rfl ?_; refine h_assign rfl rfl rfl rfl ?_; refine hx_nil ?_; refine hq_then ?_; refine hc_seq ?_; refine hc_seq ?_; refine hc_lex ?_; refine hx_plain rfl ?_; refine h_assign rfl rfl rfl rfl ?_; refine hx_nil ?_; refine hq_then ?_; refine hc_block ?_)
  refine hc_cut (id := 0) (Y := List PyD × Value) (fun y => [(0, .slice a0 xs.length c0), (4, y.2)]) (fun y => [RowV ptrE 55 y.2 (y.1.map PyD.p), pySh y.1]) (fun y => y.1.length = 10 ∧ ∀ d ∈ y.1, PyI d 0) ?_ ?_
  · refine hc_loop (X := Nat × List PyD × Value) (fun x => [(0, .slice a0 xs.length c0), (4, x.2.2), (5, .int .i64 (x.1 : Int))]) (fun x => [RowV ptrE 55 x.2.2 (x.2.1.map PyD.p), pySh x.2.1]) (fun x => x.1 ≤ 10 ∧ x.2.1.length = x.1 ∧ ∀ d ∈ x.2.1, PyI d 0) (fun x => 10 - x.1) (0, [], .slice none 0 0) (.cons rfl (.cons rfl (.cons rfl .nil))) ⟨Nat.zero_le _, rfl, fun d hd => (by cases hd)⟩ (fun w' h => ?_) ?_
    · have h2 : St w nowhere (pySh [] :: []) w' := St.all.2 h
      exact h2.rowV_nil
    rintro ⟨i, l, lv⟩ ⟨hi, hl, hI⟩
    dsimp only at hi hl hI ⊢
    have hlm : (l.map PyD.p).length = i := by rw [List.length_map, hl]
    by_cases hlt : i < 10
    · (refine hc_seq ?_; refine hc_seq ?_; refine hc_lex ?_; refine hx_plain rfl ?_; refine h_move rfl rfl rfl rfl ?_; refine hx_plain rfl ?_; refine h_cmp rfl rfl rfl rfl rfl rfl ?_; refine hx_nil ?_; refine hq_then ?_; refine hc_condDT rfl (by omega) ?_; refine hc_skip ?_; refine hq_then ?_; refine hc_seq ?_; refine hc_block ?_; refine hc_seq ?_; refine hc_lex ?_; refine hx_plain rfl ?_; refine h_build rfl inferInstance rfl rfl rfl rfl ?_; refine hx_plain rfl ?_; (refine h_box rfl rfl rfl rfl rfl rfl (fun _ => ?_)); refine hx_plain rfl ?_; refine h_assign rfl rfl rfl rfl ?_; refine hx_nil ?_; refine hq_then ?_; refine hc_seq ?_; refine hc_seq ?_; refine hc_lex ?_; refine hx_plain rfl ?_; refine h_assign rfl rfl rfl rfl ?_; refine hx_nil ?_; refine hq_then ?_; refine hc_block ?_)
      rename_i p
      refine hc_cut (id := 2) (Y := PlX) (fun _ => [(0, .slice a0 xs.length c0), (4, lv), (5, .int .i64 (i : Int)), (6, .pointer (some ⟨p, 0, none⟩))]) (fun y => [Blk p (.cells #[.pointer (some ⟨y.a, 0, none⟩), .pointer (some ⟨y.a', 0, none⟩), .pointer (some ⟨y.b, 0, none⟩), .pointer (some ⟨y.b', 0, none⟩), .slice none 0 0, .int .i64 0, .bool false] 60 (0, 0)), NetO y.a NS.new, NtR y.b NS.new, NetO y.a' NS.new, NtR y.b' NS.new, RowV ptrE 55 lv (l.map PyD.p), pySh l]) (fun _ => True) ?_ ?_
      · refine hc_loop (X := Nat × PlX) (fun x => [(0, .slice a0 xs.length c0), (4, lv), (5, .int .i64 (i : Int)), (6, .pointer (some ⟨p, 0, none⟩)), (7, .int .i64 (x.1 : Int))]) (fun x => match x.1 with | 0 => [Blk p (.cells #[.pointer none, .pointer none, .pointer none, .pointer none, .slice none 0 0, .int .i64 0, .bool false] 60 (0, 0)), RowV ptrE 55 lv (l.map PyD.p), pySh l] | 1 => [Blk p (.cells #[.pointer (some ⟨x.2.a, 0, none⟩), .pointer none, .pointer (some ⟨x.2.b, 0, none⟩), .pointer none, .slice none 0 0, .int .i64 0, .bool false] 60 (0, 0)), NetO x.2.a NS.new, NtR x.2.b NS.new, RowV ptrE 55 lv (l.map PyD.p), pySh l] | _ => [Blk p (.cells #[.pointer (some ⟨x.2.a, 0, none⟩), .pointer (some ⟨x.2.a', 0, none⟩), .pointer (some ⟨x.2.b, 0, none⟩), .pointer (some ⟨x.2.b', 0, none⟩), .slice none 0 0, .int .i64 0, .bool false] 60 (0, 0)), NetO x.2.a NS.new, NtR x.2.b NS.new, NetO x.2.a' NS.new, NtR x.2.b' NS.new, RowV ptrE 55 lv (l.map PyD.p), pySh l]) (fun x => x.1 ≤ 2) (fun x => 2 - x.1) (0, ⟨0, 0, 0, 0, none, 0⟩) (.cons rfl (.cons rfl (.cons rfl (.cons rfl (.cons rfl .nil))))) (Nat.zero_le _) (fun _ h => h) ?_
        rintro ⟨j, y⟩ hj
        dsimp only at hj
        rcases (show j = 0 ∨ j = 1 ∨ j = 2 by omega) with rfl | rfl | rfl
        · refine hc_st (C' := St w nowhere [Blk p (.cells #[.pointer none, .pointer none, .pointer none, .pointer none, .slice none 0 0, .int .i64 0, .bool false] 60 (0, 0)), RowV ptrE 55 lv (l.map PyD.p), pySh l]) (fun _ h => h) ?_
          (refine hc_seq ?_; refine hc_seq ?_; refine hc_lex ?_; refine hx_plain rfl ?_; refine h_move rfl rfl rfl rfl ?_; refine hx_plain rfl ?_; refine h_cmp rfl rfl rfl rfl rfl rfl ?_; refine hx_nil ?_; refine hq_then ?_; refine hc_condT rfl ?_; refine hc_skip ?_; refine hq_then ?_; refine hc_seq ?_; refine hc_block ?_; refine hc_seq ?_)
          refine hc_drawO [0, 1, 3, 4, 2, 5, 6] (fun _ => false) (by kernel_rfl) (by kernel_rfl) rfl ?_
          (refine hx_plain rfl ?_; refine h_move rfl rfl rfl rfl ?_; refine hx_plain rfl ?_; refine h_move rfl rfl rfl rfl ?_; refine hx_plain rfl ?_; refine h_nilCheck rfl rfl rfl rfl ?_; refine hx_plain rfl ?_; refine h_fieldAddr0 rfl rfl FC.out rfl rfl ?_; refine hx_plain rfl ?_)
          refine h_call rfl rfl rfl rfl rfl rfl rfl rfl EC.out .nil new_spec ?_
          rintro u M ⟨q, rfl, rfl⟩
          (refine hx_plain rfl ?_; refine h_indexAddrA rfl rfl rfl UC.out IC.size (by omega) rfl rfl ?_; refine hx_plain rfl ?_; refine h_store rfl rfl rfl rfl rfl rfl IC.size (.tail .head) rfl rfl (Nat.le_of_ble_eq_true rfl) (List.all_eq_true.1 rfl) ?_; refine hx_nil ?_; refine hq_then ?_; refine hc_seq ?_)
          refine hc_drawO [0, 1, 3, 4, 2, 5, 6] (fun _ => false) (by kernel_rfl) (by kernel_rfl) rfl ?_
          (refine hx_plain rfl ?_; refine h_move rfl rfl rfl rfl ?_; refine hx_plain rfl ?_; refine h_move rfl rfl rfl rfl ?_; refine hx_plain rfl ?_; refine h_nilCheck rfl rfl rfl rfl ?_; refine hx_plain rfl ?_; refine h_fieldAddr0 rfl rfl FC.out rfl rfl ?_; refine hx_plain rfl ?_)
          refine h_call rfl rfl rfl rfl rfl rfl rfl rfl EC.out .nil rnew_spec ?_
          rintro u M ⟨q2, rfl, rfl⟩
          (refine hx_plain rfl ?_; refine h_indexAddrA rfl rfl rfl UC.out IC.size (by omega) rfl rfl ?_; refine hx_plain rfl ?_; refine h_store rfl rfl rfl rfl rfl rfl IC.size (.tail .head) rfl rfl (Nat.le_of_ble_eq_true rfl) (List.all_eq_true.1 rfl) ?_; refine hx_nil ?_; refine hq_then ?_; refine hc_seq ?_; refine hc_lex ?_; refine hx_plain rfl ?_; refine h_move rfl rfl rfl rfl ?_; refine hx_plain rfl ?_; refine h_move rfl rfl rfl rfl ?_; refine hx_plain rfl ?_; refine h_nilCheck rfl rfl rfl rfl ?_; refine hx_plain rfl ?_; refine h_fieldAddr0 rfl rfl FC.out rfl rfl ?_; refine hx_plain rfl ?_; refine h_indexAddrA rfl rfl rfl UC.out IC.size (by omega) rfl rfl ?_; refine hx_plain rfl ?_; refine h_load rfl rfl UC.out rfl .head rfl rfl rfl ?_; refine hx_plain rfl ?_; refine h_eqNil rfl rfl rfl UC.out rfl rfl ?_; refine hx_nil ?_; refine hq_then ?_; refine hc_condF rfl ?_; refine hc_skip ?_; refine hq_norm_block ?_; refine hq_then ?_; refine hc_lex ?_; refine hx_plain rfl ?_; refine h_move rfl rfl rfl rfl ?_; refine hx_plain rfl ?_; refine h_arithI rfl rfl rfl rfl (by omega) rfl rfl ?_; refine hx_plain rfl ?_; refine h_assign rfl rfl rfl rfl ?_; refine hx_nil ?_)
          exact hq_round (1, ⟨q, 0, q2, 0, none, 0⟩) (by show 2 - 1 < 2 - 0; decide) (by show 1 ≤ 2; decide) (.cons rfl (.cons rfl (.cons rfl (.cons rfl (.cons rfl .nil))))) (fun _ h => h.perm ((List.Perm.swap _ _ _).cons _))
        · refine hc_st (C' := St w nowhere [Blk p (.cells #[.pointer (some ⟨y.a, 0, none⟩), .pointer none, .pointer (some ⟨y.b, 0, none⟩), .pointer none, .slice none 0 0, .int .i64 0, .bool false] 60 (0, 0)), NetO y.a NS.new, NtR y.b NS.new, RowV ptrE 55 lv (l.map PyD.p), pySh l]) (fun _ h => h) ?_
          (refine hc_seq ?_; refine hc_seq ?_; refine hc_lex ?_; refine hx_plain rfl ?_; refine h_move rfl rfl rfl rfl ?_; refine hx_plain rfl ?_; refine h_cmp rfl rfl rfl rfl rfl rfl ?_; refine hx_nil ?_; refine hq_then ?_; refine hc_condT rfl ?_; refine hc_skip ?_; refine hq_then ?_; refine hc_seq ?_; refine hc_block ?_; refine hc_seq ?_)
          refine hc_drawO [0, 1, 3, 4, 2, 5, 6] (fun _ => false) (by kernel_rfl) (by kernel_rfl) rfl ?_
          (refine hx_plain rfl ?_; refine h_move rfl rfl rfl rfl ?_; refine hx_plain rfl ?_; refine h_move rfl rfl rfl rfl ?_; refine hx_plain rfl ?_; refine h_nilCheck rfl rfl rfl rfl ?_; refine hx_plain rfl ?_; refine h_fieldAddr0 rfl rfl FC.out rfl rfl ?_; refine hx_plain rfl ?_)
          refine h_call rfl rfl rfl rfl rfl rfl rfl rfl EC.out .nil new_spec ?_
          rintro u M ⟨q, rfl, rfl⟩
          (refine hx_plain rfl ?_; refine h_indexAddrA rfl rfl rfl UC.out IC.size (by omega) rfl rfl ?_; refine hx_plain rfl ?_; refine h_store rfl rfl rfl rfl rfl rfl IC.size (.tail .head) rfl rfl (Nat.le_of_ble_eq_true rfl) (List.all_eq_true.1 rfl) ?_; refine hx_nil ?_; refine hq_then ?_; refine hc_seq ?_)
          refine hc_drawO [0, 1, 3, 4, 2, 5, 6] (fun _ => false) (by kernel_rfl) (by kernel_rfl) rfl ?_
          (refine hx_plain rfl ?_; refine h_move rfl rfl rfl rfl ?_; refine hx_plain rfl ?_; refine h_move rfl rfl rfl rfl ?_; refine hx_plain rfl ?_; refine h_nilCheck rfl rfl rfl rfl ?_; refine hx_plain rfl ?_; refine h_fieldAddr0 rfl rfl FC.out rfl rfl ?_; refine hx_plain rfl ?_)
          refine h_call rfl rfl rfl rfl rfl rfl rfl rfl EC.out .nil rnew_spec ?_
          rintro u M ⟨q2, rfl, rfl⟩
          (refine hx_plain rfl ?_; refine h_indexAddrA rfl rfl rfl UC.out IC.size (by omega) rfl rfl ?_; refine hx_plain rfl ?_; refine h_store rfl rfl rfl rfl rfl rfl IC.size (.tail .head) rfl rfl (Nat.le_of_ble_eq_true rfl) (List.all_eq_true.1 rfl) ?_; refine hx_nil ?_; refine hq_then ?_; refine hc_seq ?_; refine hc_lex ?_; refine hx_plain rfl ?_; refine h_move rfl rfl rfl rfl ?_; refine hx_plain rfl ?_; refine h_move rfl rfl rfl rfl ?_; refine hx_plain rfl ?_; refine h_nilCheck rfl rfl rfl rfl ?_; refine hx_plain rfl ?_; refine h_fieldAddr0 rfl rfl FC.out rfl rfl ?_; refine hx_plain rfl ?_; refine h_indexAddrA rfl rfl rfl UC.out IC.size (by omega) rfl rfl ?_; refine hx_plain rfl ?_; refine h_load rfl rfl UC.out rfl .head rfl rfl rfl ?_; refine hx_plain rfl ?_; refine h_eqNil rfl rfl rfl UC.out rfl rfl ?_; refine hx_nil ?_; refine hq_then ?_; refine hc_condF rfl ?_; refine hc_skip ?_; refine hq_norm_block ?_; refine hq_then ?_; refine hc_lex ?_; refine hx_plain rfl ?_; refine h_move rfl rfl rfl rfl ?_; refine hx_plain rfl ?_; refine h_arithI rfl rfl rfl rfl (by omega) rfl rfl ?_; refine hx_plain rfl ?_; refine h_assign rfl rfl rfl rfl ?_; refine hx_nil ?_)
          exact hq_round (2, ⟨y.a, q, y.b, q2, none, 0⟩) (by show 2 - 2 < 2 - 1; decide) (by show 2 ≤ 2; decide) (.cons rfl (.cons rfl (.cons rfl (.cons rfl (.cons rfl .nil))))) (fun _ h => h.sub (.cons .head (.cons (.tail (.tail .head)) (.cons (.tail (.tail .head)) (.cons (.tail .head) (.cons .head (.cons .head (.cons .head .nil))))))))
        · refine hc_st (C' := St w nowhere [Blk p (.cells #[.pointer (some ⟨y.a, 0, none⟩), .pointer (some ⟨y.a', 0, none⟩), .pointer (some ⟨y.b, 0, none⟩), .pointer (some ⟨y.b', 0, none⟩), .slice none 0 0, .int .i64 0, .bool false] 60 (0, 0)), NetO y.a NS.new, NtR y.b NS.new, NetO y.a' NS.new, NtR y.b' NS.new, RowV ptrE 55 lv (l.map PyD.p), pySh l]) (fun _ h => h) ?_
          (refine hc_seq ?_; refine hc_seq ?_; refine hc_lex ?_; refine hx_plain rfl ?_; refine h_move rfl rfl rfl rfl ?_; refine hx_plain rfl ?_; refine h_cmp rfl rfl rfl rfl rfl rfl ?_; refine hx_nil ?_; refine hq_then ?_; refine hc_condF rfl ?_; refine hc_exit ?_; refine hq_exit_then ?_; refine hq_exit_then ?_)
          exact hq_cut y trivial (.cons rfl (.cons rfl (.cons rfl (.cons rfl .nil)))) (fun _ h => h)
      rintro y _
      (refine hq_exit_block ?_; refine hq_then ?_; refine hc_lex ?_; refine hx_plain rfl ?_; refine h_move rfl rfl rfl rfl ?_; refine hx_plain rfl ?_; refine h_move rfl rfl rfl rfl ?_; refine hx_plain rfl ?_; (refine h_buildSlice rfl rfl rfl UC.out IC.size IC.zero rfl rfl (by intro v hv; simp at hv; first | (subst hv; rfl) | (rcases hv with rfl | rfl <;> rfl) | (rcases hv with rfl | rfl | rfl <;> rfl)) (by omega) rfl rfl (fun _ => ?_)); refine hx_plain rfl ?_)
      refine h_append (m := 1) (E := ptrE) (T := 55) (xs := l.map PyD.p) (ys := [p]) rfl rfl rfl rfl rfl UC.out IC.out rfl (.cons (.tail (.tail (.tail (.tail (.tail (.tail .head)))))) (.cons .head .nil)) rfl (one_row ptrE _) (by unfold maxLen; omega) (by omega) rfl rfl (fun v' _ => ?_)
      (refine hx_plain rfl ?_; refine h_assign rfl rfl rfl rfl ?_; refine hx_nil ?_; refine hq_norm_block ?_; refine hq_then ?_; refine hc_lex ?_; refine hx_plain rfl ?_; refine h_move rfl rfl rfl rfl ?_; refine hx_plain rfl ?_; refine h_arithI rfl rfl rfl rfl (by omega) rfl rfl ?_; refine hx_plain rfl ?_; refine h_assign rfl rfl rfl rfl ?_; refine hx_nil ?_)
      refine hq_round (i + 1, l ++ [⟨p, NS.new, NS.new, [], 0, false⟩], v') (by show 10 - (i + 1) < 10 - i; omega) ⟨by show i + 1 ≤ 10; omega, by show (l ++ [_]).length = _; rw [List.length_append, hl]; rfl, fun d hd => ?_⟩ (.cons rfl (.cons rfl (.cons rfl .nil))) (fun w' h => ?_)
      · rcases List.mem_append.1 (show d ∈ l ++ [_] from hd) with hd | hd
        · exact hI d hd
        · simp at hd
          subst hd
          exact ⟨NInv.new, NInv.new, Nat.zero_le _⟩
      · rw [show (l ++ [(⟨p, NS.new, NS.new, [], 0, false⟩ : PyD)]).map PyD.p = l.map PyD.p ++ [p] by rw [List.map_append]; rfl]
        have h1 := (St.rowV_nil (E := ktE) (T := 89) (h.sub (.cons (.tail (.tail .head)) (.cons (.tail (.tail .head)) (.cons (.tail (.tail .head)) (.cons (.tail (.tail .head)) (.cons (.tail (.tail .head)) (.cons .head (.cons (.tail .head) .nil))))))))).rowM.holds_nil (E := byteE)
        have h2 : St w nowhere (PyD.pc ⟨p, NS.new, NS.new, [], 0, false⟩ :: RowV ptrE 55 v' (l.map PyD.p ++ [p]) :: pySh l :: []) w' := PlO_shut ⟨y.a, y.a', y.b, y.b', none, 0⟩ (h1.sub (.cons (.tail (.tail .head)) (.cons (.tail (.tail .head)) (.cons (.tail (.tail .head)) (.cons (.tail .head) (.cons .head (.cons .head (.cons .head (.cons .head (.cons .head .nil))))))))))
        exact (pySh_snoc (h2.sub (.cons (.tail (.tail .head)) (.cons .head (.cons .head .nil))))).perm (List.Perm.swap _ _ _)
    · (refine hc_seq ?_; refine hc_seq ?_; refine hc_lex ?_; refine hx_plain rfl ?_; refine h_move rfl rfl rfl rfl ?_; refine hx_plain rfl ?_; refine h_cmp rfl rfl rfl rfl rfl rfl ?_; refine hx_nil ?_; refine hq_then ?_; refine hc_condDF rfl (by omega) ?_; refine hc_exit ?_; refine hq_exit_then ?_; refine hq_exit_then ?_)
      exact hq_cut (l, lv) ⟨by show l.length = 10; omega, hI⟩ (.cons rfl (.cons rfl .nil)) (fun _ h => h)
  rintro ⟨l, lv⟩ ⟨hl, hI⟩
  dsimp only at hl hI ⊢
  refine hq_know (fun _ h => St.rowV_shapeS h .head) ?_
  rw [List.length_map, hl]
  rintro ⟨la, lc, rfl⟩
  (refine hq_exit_block ?_; refine hq_then ?_; refine hc_seq ?_; refine hc_seq ?_; refine hc_lex ?_; refine hx_plain rfl ?_; refine h_assign rfl rfl rfl rfl ?_; refine hx_nil ?_; refine hq_then ?_; refine hc_block ?_)
  refine hc_cut (id := 4) (Y := List PyD) (fun _ => [(4, .slice la 10 lc)]) (fun y => [RowV ptrE 55 (.slice la 10 lc) (y.map PyD.p), pySh y]) (fun y => y.length = 10 ∧ ∀ d ∈ y, PyI d 704388730000000000) ?_ ?_
  · refine hc_loop (X := Nat × List PyD) (fun x => [(0, .slice a0 xs.length c0), (4, .slice la 10 lc), (8, .int .i64 (x.1 : Int))]) (fun x => [RowV ptrE 55 (.slice la 10 lc) (x.2.map PyD.p), pySh x.2]) (fun x => x.1 ≤ xs.length ∧ x.2.length = 10 ∧ ∀ d ∈ x.2, PyI d (5001 * (x.1 : Int))) (fun x => xs.length - x.1) (0, l) (.cons rfl (.cons rfl (.cons rfl .nil))) ⟨Nat.zero_le _, hl, hI⟩ (fun _ h => h) ?_
    rintro ⟨i, l⟩ ⟨hi, hl, hI⟩
    dsimp only at hi hl hI ⊢
    by_cases hlt : i < xs.length
    · have hxs : xs ≠ [] := by
        intro e
        rw [e] at hlt
        exact absurd hlt (Nat.not_lt_zero _)
      obtain ⟨g0, f0, rfl, r1⟩ := k0.resolve_left (by simpa using hxs)
      obtain ⟨⟨o, ds⟩, hq⟩ : ∃ q, xs[i]? = some q := ⟨_, List.getElem?_eq_getElem hlt⟩
      have e1 : (xs.map (·.1))[((i : Nat) : Int).toNat]? = some o := by
        rw [List.getElem?_map]
        show (xs[i]?).map _ = _
        rw [hq]
        rfl
      obtain ⟨hqr, hql⟩ := hx _ (List.mem_iff_getElem?.2 ⟨i, hq⟩)
      dsimp only at hqr hql
      obtain ⟨kind, who, no, at_, v, to, sl, many⟩ := o
      obtain ⟨sa, sn, sc⟩ := sl
      obtain ⟨ra, rc, re, _⟩ := id hqr
      injection re with _ re2 _
      dsimp only at re2
      subst re2
      by_cases k8 : kind = 8
      · (refine hc_seq ?_; refine hc_seq ?_; refine hc_lex ?_; refine hx_plain rfl ?_; refine h_move rfl rfl rfl rfl ?_; refine hx_plain rfl ?_; refine h_move rfl rfl rfl rfl ?_; refine hx_plain rfl ?_; refine h_len_slice rfl rfl rfl UC.out rfl rfl rfl ?_; refine hx_plain rfl ?_; refine h_cmp rfl rfl rfl rfl rfl rfl ?_; refine hx_nil ?_; refine hq_then ?_; refine hc_condDT rfl (by omega) ?_; refine hc_skip ?_; refine hq_then ?_; refine hc_seq ?_; refine hc_block ?_; refine hc_seq ?_; refine hc_seq ?_; refine hc_lex ?_; refine hx_plain rfl ?_; refine h_move rfl rfl rfl rfl ?_; refine hx_plain rfl ?_; refine h_move rfl rfl rfl rfl ?_; refine hx_plain rfl ?_; refine h_indexAddr rfl rfl rfl UC.out IC.size (by omega) (by omega) rfl rfl ?_; refine hx_plain rfl ?_; refine h_fieldAddr rfl rfl FC.out rfl rfl ?_; refine hx_plain rfl ?_; refine h_rdLoad rfl r1 rfl UC.out rfl (by with_reducible assumption) rfl rfl rfl ?_; refine hx_plain rfl ?_; refine h_cmp rfl rfl rfl rfl rfl rfl ?_; refine hx_nil ?_; refine hq_then ?_; refine hc_condDT rfl (by omega) ?_; refine hc_exit ?_; refine hq_exit_then ?_; refine hq_exit_block ?_; refine hq_then ?_; refine hc_lex ?_; refine hx_plain rfl ?_; refine h_move rfl rfl rfl rfl ?_; refine hx_plain rfl ?_; refine h_arithI rfl rfl rfl rfl (by omega) rfl rfl ?_; refine hx_plain rfl ?_; refine h_assign rfl rfl rfl rfl ?_; refine hx_nil ?_)
        exact hq_round (i + 1, l) (by show xs.length - (i + 1) < xs.length - i; omega) ⟨by show i + 1 ≤ xs.length; omega, hl, fun d hd => ⟨(hI d hd).h0.mono (by omega), (hI d hd).h1.mono (by omega), (hI d hd).en⟩⟩ (.cons rfl (.cons rfl (.cons rfl .nil))) (fun _ h => h)
      obtain ⟨k, hk⟩ : ∃ k : Nat, (3 * (i : Int)) % 10 = (k : Int) := ⟨3 * i % 10, by omega⟩
      have hk10 : k < 10 := by omega
      obtain ⟨⟨p, s0, s1, ents, st, lg⟩, hd⟩ : ∃ d, l[k]? = some d := ⟨_, List.getElem?_eq_getElem (by omega)⟩
      obtain ⟨hs0, hs1, hen⟩ := hI _ (List.mem_iff_getElem?.2 ⟨k, hd⟩)
      dsimp only at hs0 hs1 hen
      have e2 : (l.map PyD.p)[((3 * (i : Int)) % 10).toNat]? = some p := by rw [hk, List.getElem?_map]; show (l[k]?).map _ = _; rw [hd]; rfl
      refine hc_st (C' := St w nowhere [PlO p 0 s0 s1 ents st lg, pySh (l.eraseIdx k), RowV ptrE 55 (.slice la 10 lc) (l.map PyD.p)]) (fun _ h => pySh_erase hd (h.perm (List.Perm.swap _ _ _))) ?_
      refine hc_rowV (.tail (.tail .head)) ?_ ?_
      · intro _ e
        have := congrArg List.length e
        rw [List.length_map, hl] at this
        cases this
      rintro g cap e
      injection e with e1' e2' e3'
      subst e1' e3'
      refine hc_open (.tail .head) PlO_open ?_
      rintro ⟨a, a', b, b', ba, bc⟩
      unfold plL
      dsimp only
      rw [plC0]
      have hml : (l.map PyD.p).length = 10 := by rw [List.length_map, hl]
      (refine hc_seq ?_; refine hc_seq ?_; refine hc_lex ?_; refine hx_plain rfl ?_; refine h_move rfl rfl rfl rfl ?_; refine hx_plain rfl ?_; refine h_move rfl rfl rfl rfl ?_; refine hx_plain rfl ?_; refine h_len_slice rfl rfl rfl UC.out rfl rfl rfl ?_; refine hx_plain rfl ?_; refine h_cmp rfl rfl rfl rfl rfl rfl ?_; refine hx_nil ?_; refine hq_then ?_; refine hc_condDT rfl (by omega) ?_; refine hc_skip ?_; refine hq_then ?_; refine hc_seq ?_; refine hc_block ?_; refine hc_seq ?_; refine hc_seq ?_; refine hc_lex ?_; refine hx_plain rfl ?_; refine h_move rfl rfl rfl rfl ?_; refine hx_plain rfl ?_; refine h_move rfl rfl rfl rfl ?_; refine hx_plain rfl ?_; refine h_indexAddr rfl rfl rfl UC.out IC.size (by omega) (by omega) rfl rfl ?_; refine hx_plain rfl ?_; refine h_fieldAddr rfl rfl FC.out rfl rfl ?_; refine hx_plain rfl ?_; refine h_rdLoad rfl r1 rfl UC.out rfl (by with_reducible assumption) rfl rfl rfl ?_; refine hx_plain rfl ?_; refine h_cmp rfl rfl rfl rfl rfl rfl ?_; refine hx_nil ?_; refine hq_then ?_; refine hc_condDF rfl (by omega) ?_; refine hc_skip ?_; refine hq_then ?_; refine hc_seq ?_; refine hc_lex ?_; refine hx_plain rfl ?_; refine h_move rfl rfl rfl rfl ?_; refine hx_plain rfl ?_; refine h_move rfl rfl rfl rfl ?_; refine hx_plain rfl ?_; refine h_arithI rfl rfl rfl rfl (by omega) rfl rfl ?_; refine hx_plain rfl ?_; refine h_remI rfl rfl rfl (by omega) rfl rfl ?_; refine hx_plain rfl ?_; refine h_rowAddr rfl rfl rfl UC.out IC.size (by omega) (by omega) rfl rfl ?_; refine hx_plain rfl ?_; refine h_rowLoad1 rfl (.tail (.tail (.tail (.tail (.tail (.tail (.tail .head))))))) rfl UC.out rfl (by with_reducible assumption) rfl rfl rfl ?_; refine hx_plain rfl ?_; refine h_assign rfl rfl rfl rfl ?_; refine hx_nil ?_; refine hq_then ?_; refine hc_seq ?_; refine hc_lex ?_; refine hx_plain rfl ?_; refine h_move rfl rfl rfl rfl ?_; refine hx_plain rfl ?_; refine h_move rfl rfl rfl rfl ?_; refine hx_plain rfl ?_; refine h_nilCheck rfl rfl rfl rfl ?_; refine hx_plain rfl ?_; refine h_fieldAddr0 rfl rfl FC.out rfl rfl ?_; refine hx_plain rfl ?_; refine h_store rfl rfl rfl rfl rfl rfl IC.size .head rfl rfl (Nat.le_of_ble_eq_true rfl) (List.all_eq_true.1 rfl) ?_; refine hx_nil ?_; refine hq_then ?_; refine hc_seq ?_; refine hc_lex ?_; refine hx_plain rfl ?_; refine h_move rfl rfl rfl rfl ?_; refine hx_plain rfl ?_; refine h_move rfl rfl rfl rfl ?_; refine hx_plain rfl ?_; refine h_move rfl rfl rfl rfl ?_; refine hx_plain rfl ?_; refine h_indexAddr rfl rfl rfl UC.out IC.size (by omega) (by omega) rfl rfl ?_; refine hx_plain rfl ?_; refine h_rdLoadN rfl r1 rfl UC.out rfl IC.size (by with_reducible assumption) rfl rfl rfl ?_; refine hx_plain rfl ?_)
      obtain ⟨wi, hwi, hw01⟩ := and_one who
      rcases hw01 with rfl | rfl
      focus
        refine hx1_conv rfl rfl (C' := St w nowhere [PlO p 0 s0 s1 ents (i : Int) lg, Row ptrE 55 g lc (l.map PyD.p), pySh (l.eraseIdx k)]) (fun _ h => PlO_shut ⟨a, a', b, b', ba, bc⟩ h) ?_
        refine h_callB hB hF rfl rfl rfl rfl rfl rfl rfl rfl EC.out (.cons .head .nil) (playsB (.inl rfl) hwi hs0 (by omega) (by omega) hen hqr hql) ?_
        rintro u M ⟨rfl, s0', ents', lg', hs0', hen', rfl⟩
        (refine hx_plain rfl ?_; refine h_assign rfl rfl rfl rfl ?_; refine hx_nil ?_; refine hq_then ?_)
        refine hc_open .head PlO_open ?_
        rintro ⟨a, a', b, b', ba, bc⟩
        refine hc_know (φ := ents'.length ≤ bc) (fun _ h => by obtain ⟨x1, x2, e, hle, _⟩ := St.rowM_shape (v := .slice ba ents'.length bc) (xs := ents') h (.tail (.tail (.tail .head))); injection e with _ _ e3; rw [e3]; exact hle) ?_
        intro hbc
        refine hc_meet (Y := Unit) (fun _ => [(0, .slice (some ⟨g0, f0, none⟩) xs.length c0), (4, .slice (some ⟨g, 0, none⟩) 10 lc), (8, .int .i64 (i : Int)), (9, .pointer (some ⟨p, 0, none⟩))]) (fun _ => (plL p 0 s0' s1 ents' (i : Int) lg' ⟨a, a', b, b', ba, bc⟩ ++ [Row ptrE 55 g lc (l.map PyD.p), pySh (l.eraseIdx k)])) (fun _ => True) ?_ ?_
        · (refine hc_seq ?_; refine hc_lex ?_; refine hx_plain rfl ?_; refine h_move rfl rfl rfl rfl ?_; refine hx_plain rfl ?_; refine h_not rfl rfl rfl rfl ?_; refine hx_nil ?_; refine hq_then ?_; refine hc_condF rfl ?_; refine hc_skip ?_)
          exact hq_met () trivial (.cons rfl (.cons rfl (.cons rfl (.cons rfl .nil)))) (fun _ h => h)
        rintro ⟨⟩ _
        unfold plL
        dsimp only
        rw [plC0]
        by_cases c2 : (ents'.length : Int) > 900
        · (refine hc_seq ?_; refine hc_lex ?_; refine hx_plain rfl ?_; refine h_move rfl rfl rfl rfl ?_; refine hx_plain rfl ?_; refine h_nilCheck rfl rfl rfl rfl ?_; refine hx_plain rfl ?_; refine h_fieldAddr0 rfl rfl FC.out rfl rfl ?_; refine hx_plain rfl ?_; refine h_load rfl rfl UC.out rfl .head rfl rfl rfl ?_; refine hx_plain rfl ?_; refine h_len_slice rfl rfl rfl UC.out rfl rfl rfl ?_; refine hx_plain rfl ?_; refine h_cmp rfl rfl rfl rfl rfl rfl ?_; refine hx_nil ?_; refine hq_then ?_; refine hc_condDT rfl (by omega) ?_; refine hc_lex ?_; refine hx_plain rfl ?_; refine h_move rfl rfl rfl rfl ?_; refine hx_plain rfl ?_; refine h_move rfl rfl rfl rfl ?_; refine hx_plain rfl ?_; refine h_nilCheck rfl rfl rfl rfl ?_; refine hx_plain rfl ?_; refine h_fieldAddr0 rfl rfl FC.out rfl rfl ?_; refine hx_plain rfl ?_; refine h_load rfl rfl UC.out rfl .head rfl rfl rfl ?_; refine hx_plain rfl ?_)
          refine h_sliceFrom rfl rfl rfl UC.out IC.size (by omega) rfl rfl ?_
          (refine hx_plain rfl ?_)
          refine hx1_conv rfl rfl (fun _ h => St.rowV_nil (E := ktE) (T := 89) h) ?_
          refine h_appendRdR (E := ktE) (T := 89) (xs := []) (ys := ents'.drop 600) rfl rfl rfl rfl rfl UC.out IC.out rfl .head (fun w' h => St.rdRowM (St.rowM_from (k := 600) (h.sub (.cons (.tail (.tail (.tail (.tail .head)))) .nil)) (by omega) (by omega)) .head) (fun e => by have := congrArg List.length e; rw [List.length_drop] at this; have h0 : ents'.length - 600 = 0 := this; omega) (by unfold maxLen; rw [List.length_drop]; show 0 + _ ≤ _; omega) (by rw [List.length_drop]; show (0 + _) * _ ≤ _; omega) rfl rfl (fun g' cap' => ?_)
          (refine hx_plain rfl ?_; refine h_nilCheck rfl rfl rfl rfl ?_; refine hx_plain rfl ?_; refine h_fieldAddr0 rfl rfl FC.out rfl rfl ?_; refine hx_plain rfl ?_; refine h_store rfl rfl rfl rfl rfl rfl IC.size (.tail .head) rfl rfl (Nat.le_of_ble_eq_true rfl) (List.all_eq_true.1 rfl) ?_; refine hx_nil ?_; refine hq_norm_block ?_; refine hq_then ?_; refine hc_lex ?_; refine hx_plain rfl ?_; refine h_move rfl rfl rfl rfl ?_; refine hx_plain rfl ?_; refine h_arithI rfl rfl rfl rfl (by omega) rfl rfl ?_; refine hx_plain rfl ?_; refine h_assign rfl rfl rfl rfl ?_; refine hx_nil ?_)
          refine hq_round (i + 1, l.set k (⟨p, s0', s1, ents'.drop 600, (i : Int), lg'⟩ : PyD)) (by show xs.length - (i + 1) < xs.length - i; omega) ⟨by show i + 1 ≤ xs.length; omega, by show (l.set k _).length = 10; rw [List.length_set, hl], fun d hd2 => ?_⟩ (.cons rfl (.cons rfl (.cons rfl .nil))) (fun w' h => ?_)
          · rcases List.mem_or_eq_of_mem_set (show d ∈ l.set k _ from hd2) with hd2 | rfl
            · exact ⟨(hI d hd2).h0.mono (by omega), (hI d hd2).h1.mono (by omega), (hI d hd2).en⟩
            · exact ⟨hs0'.mono (by omega), hs1.mono (by omega), by show (ents'.drop 600).length ≤ 903; rw [List.length_drop]; omega⟩
          · have h1 := (h.sub (.cons (.tail .head) (.cons .head (.cons .head (.cons .head (.cons (.tail .head) (.cons (.tail .head) (.cons (.tail .head) (.cons (.tail .head) (.cons (.tail .head) .nil)))))))))).rowV_mk.rowM
            have h2 := St.holds_sub (b := kH (ents'.drop 600)) (fun q hq => by unfold kH at hq ⊢; rw [List.map_drop] at hq; exact List.mem_of_mem_drop hq) (h1.sub (.cons (.tail (.tail (.tail (.tail .head)))) (.cons .head (.cons .head (.cons .head (.cons .head (.cons .head (.cons .head (.cons .head (.cons .head .nil))))))))))
            exact py_back (d' := ⟨p, s0', s1, ents'.drop 600, (i : Int), lg'⟩) hd rfl hl (PlO_shut ⟨a, a', b, b', some ⟨g', 0, none⟩, cap'⟩ (h2.sub (.cons (.tail (.tail .head)) (.cons (.tail (.tail .head)) (.cons (.tail (.tail .head)) (.cons (.tail .head) (.cons .head (.cons .head (.cons .head (.cons .head (.cons .head .nil)))))))))))
        · (refine hc_seq ?_; refine hc_lex ?_; refine hx_plain rfl ?_; refine h_move rfl rfl rfl rfl ?_; refine hx_plain rfl ?_; refine h_nilCheck rfl rfl rfl rfl ?_; refine hx_plain rfl ?_; refine h_fieldAddr0 rfl rfl FC.out rfl rfl ?_; refine hx_plain rfl ?_; refine h_load rfl rfl UC.out rfl .head rfl rfl rfl ?_; refine hx_plain rfl ?_; refine h_len_slice rfl rfl rfl UC.out rfl rfl rfl ?_; refine hx_plain rfl ?_; refine h_cmp rfl rfl rfl rfl rfl rfl ?_; refine hx_nil ?_; refine hq_then ?_; refine hc_condDF rfl (by omega) ?_; refine hc_skip ?_; refine hq_norm_block ?_; refine hq_then ?_; refine hc_lex ?_; refine hx_plain rfl ?_; refine h_move rfl rfl rfl rfl ?_; refine hx_plain rfl ?_; refine h_arithI rfl rfl rfl rfl (by omega) rfl rfl ?_; refine hx_plain rfl ?_; refine h_assign rfl rfl rfl rfl ?_; refine hx_nil ?_)
          refine hq_round (i + 1, l.set k (⟨p, s0', s1, ents', (i : Int), lg'⟩ : PyD)) (by show xs.length - (i + 1) < xs.length - i; omega) ⟨by show i + 1 ≤ xs.length; omega, by show (l.set k _).length = 10; rw [List.length_set, hl], fun d hd2 => ?_⟩ (.cons rfl (.cons rfl (.cons rfl .nil))) (fun w' h => ?_)
          · rcases List.mem_or_eq_of_mem_set (show d ∈ l.set k _ from hd2) with hd2 | rfl
            · exact ⟨(hI d hd2).h0.mono (by omega), (hI d hd2).h1.mono (by omega), (hI d hd2).en⟩
            · exact ⟨hs0'.mono (by omega), hs1.mono (by omega), by show ents'.length ≤ 903; omega⟩
          · exact py_back (d' := ⟨p, s0', s1, ents', (i : Int), lg'⟩) hd rfl hl (PlO_shut ⟨a, a', b, b', ba, bc⟩ h)
      focus
        refine hx1_conv rfl rfl (C' := St w nowhere [PlO p 1 s1 s0 ents (i : Int) lg, Row ptrE 55 g lc (l.map PyD.p), pySh (l.eraseIdx k)]) (fun _ h => PlO_swap01 (PlO_shut ⟨a, a', b, b', ba, bc⟩ h)) ?_
        refine h_callB hB hF rfl rfl rfl rfl rfl rfl rfl rfl EC.out (.cons .head .nil) (playsB (.inr rfl) hwi hs1 (by omega) (by omega) hen hqr hql) ?_
        rintro u M ⟨rfl, s1', ents', lg', hs1', hen', rfl⟩
        (refine hx_plain rfl ?_; refine h_assign rfl rfl rfl rfl ?_; refine hx_nil ?_; refine hq_then ?_)
        refine hc_st (C' := St w nowhere [PlO p 0 s0 s1' ents' (i : Int) lg', Row ptrE 55 g lc (l.map PyD.p), pySh (l.eraseIdx k)]) (fun _ h => PlO_swap10 h) ?_
        refine hc_open .head PlO_open ?_
        rintro ⟨a, a', b, b', ba, bc⟩
        refine hc_know (φ := ents'.length ≤ bc) (fun _ h => by obtain ⟨x1, x2, e, hle, _⟩ := St.rowM_shape (v := .slice ba ents'.length bc) (xs := ents') h (.tail (.tail (.tail .head))); injection e with _ _ e3; rw [e3]; exact hle) ?_
        intro hbc
        refine hc_meet (Y := Unit) (fun _ => [(0, .slice (some ⟨g0, f0, none⟩) xs.length c0), (4, .slice (some ⟨g, 0, none⟩) 10 lc), (8, .int .i64 (i : Int)), (9, .pointer (some ⟨p, 0, none⟩))]) (fun _ => (plL p 0 s0 s1' ents' (i : Int) lg' ⟨a, a', b, b', ba, bc⟩ ++ [Row ptrE 55 g lc (l.map PyD.p), pySh (l.eraseIdx k)])) (fun _ => True) ?_ ?_
        · (refine hc_seq ?_; refine hc_lex ?_; refine hx_plain rfl ?_; refine h_move rfl rfl rfl rfl ?_; refine hx_plain rfl ?_; refine h_not rfl rfl rfl rfl ?_; refine hx_nil ?_; refine hq_then ?_; refine hc_condF rfl ?_; refine hc_skip ?_)
          exact hq_met () trivial (.cons rfl (.cons rfl (.cons rfl (.cons rfl .nil)))) (fun _ h => h)
        rintro ⟨⟩ _
        unfold plL
        dsimp only
        rw [plC0]
        by_cases c2 : (ents'.length : Int) > 900
        · (refine hc_seq ?_; refine hc_lex ?_; refine hx_plain rfl ?_; refine h_move rfl rfl rfl rfl ?_; refine hx_plain rfl ?_; refine h_nilCheck rfl rfl rfl rfl ?_; refine hx_plain rfl ?_; refine h_fieldAddr0 rfl rfl FC.out rfl rfl ?_; refine hx_plain rfl ?_; refine h_load rfl rfl UC.out rfl .head rfl rfl rfl ?_; refine hx_plain rfl ?_; refine h_len_slice rfl rfl rfl UC.out rfl rfl rfl ?_; refine hx_plain rfl ?_; refine h_cmp rfl rfl rfl rfl rfl rfl ?_; refine hx_nil ?_; refine hq_then ?_; refine hc_condDT rfl (by omega) ?_; refine hc_lex ?_; refine hx_plain rfl ?_; refine h_move rfl rfl rfl rfl ?_; refine hx_plain rfl ?_; refine h_move rfl rfl rfl rfl ?_; refine hx_plain rfl ?_; refine h_nilCheck rfl rfl rfl rfl ?_; refine hx_plain rfl ?_; refine h_fieldAddr0 rfl rfl FC.out rfl rfl ?_; refine hx_plain rfl ?_; refine h_load rfl rfl UC.out rfl .head rfl rfl rfl ?_; refine hx_plain rfl ?_)
          refine h_sliceFrom rfl rfl rfl UC.out IC.size (by omega) rfl rfl ?_
          (refine hx_plain rfl ?_)
          refine hx1_conv rfl rfl (fun _ h => St.rowV_nil (E := ktE) (T := 89) h) ?_
          refine h_appendRdR (E := ktE) (T := 89) (xs := []) (ys := ents'.drop 600) rfl rfl rfl rfl rfl UC.out IC.out rfl .head (fun w' h => St.rdRowM (St.rowM_from (k := 600) (h.sub (.cons (.tail (.tail (.tail (.tail .head)))) .nil)) (by omega) (by omega)) .head) (fun e => by have := congrArg List.length e; rw [List.length_drop] at this; have h0 : ents'.length - 600 = 0 := this; omega) (by unfold maxLen; rw [List.length_drop]; show 0 + _ ≤ _; omega) (by rw [List.length_drop]; show (0 + _) * _ ≤ _; omega) rfl rfl (fun g' cap' => ?_)
          (refine hx_plain rfl ?_; refine h_nilCheck rfl rfl rfl rfl ?_; refine hx_plain rfl ?_; refine h_fieldAddr0 rfl rfl FC.out rfl rfl ?_; refine hx_plain rfl ?_; refine h_store rfl rfl rfl rfl rfl rfl IC.size (.tail .head) rfl rfl (Nat.le_of_ble_eq_true rfl) (List.all_eq_true.1 rfl) ?_; refine hx_nil ?_; refine hq_norm_block ?_; refine hq_then ?_; refine hc_lex ?_; refine hx_plain rfl ?_; refine h_move rfl rfl rfl rfl ?_; refine hx_plain rfl ?_; refine h_arithI rfl rfl rfl rfl (by omega) rfl rfl ?_; refine hx_plain rfl ?_; refine h_assign rfl rfl rfl rfl ?_; refine hx_nil ?_)
          refine hq_round (i + 1, l.set k (⟨p, s0, s1', ents'.drop 600, (i : Int), lg'⟩ : PyD)) (by show xs.length - (i + 1) < xs.length - i; omega) ⟨by show i + 1 ≤ xs.length; omega, by show (l.set k _).length = 10; rw [List.length_set, hl], fun d hd2 => ?_⟩ (.cons rfl (.cons rfl (.cons rfl .nil))) (fun w' h => ?_)
          · rcases List.mem_or_eq_of_mem_set (show d ∈ l.set k _ from hd2) with hd2 | rfl
            · exact ⟨(hI d hd2).h0.mono (by omega), (hI d hd2).h1.mono (by omega), (hI d hd2).en⟩
            · exact ⟨hs0.mono (by omega), hs1'.mono (by omega), by show (ents'.drop 600).length ≤ 903; rw [List.length_drop]; omega⟩
          · have h1 := (h.sub (.cons (.tail .head) (.cons .head (.cons .head (.cons .head (.cons (.tail .head) (.cons (.tail .head) (.cons (.tail .head) (.cons (.tail .head) (.cons (.tail .head) .nil)))))))))).rowV_mk.rowM
            have h2 := St.holds_sub (b := kH (ents'.drop 600)) (fun q hq => by unfold kH at hq ⊢; rw [List.map_drop] at hq; exact List.mem_of_mem_drop hq) (h1.sub (.cons (.tail (.tail (.tail (.tail .head)))) (.cons .head (.cons .head (.cons .head (.cons .head (.cons .head (.cons .head (.cons .head (.cons .head .nil))))))))))
            exact py_back (d' := ⟨p, s0, s1', ents'.drop 600, (i : Int), lg'⟩) hd rfl hl (PlO_shut ⟨a, a', b, b', some ⟨g', 0, none⟩, cap'⟩ (h2.sub (.cons (.tail (.tail .head)) (.cons (.tail (.tail .head)) (.cons (.tail (.tail .head)) (.cons (.tail .head) (.cons .head (.cons .head (.cons .head (.cons .head (.cons .head .nil)))))))))))
        · (refine hc_seq ?_; refine hc_lex ?_; refine hx_plain rfl ?_; refine h_move rfl rfl rfl rfl ?_; refine hx_plain rfl ?_; refine h_nilCheck rfl rfl rfl rfl ?_; refine hx_plain rfl ?_; refine h_fieldAddr0 rfl rfl FC.out rfl rfl ?_; refine hx_plain rfl ?_; refine h_load rfl rfl UC.out rfl .head rfl rfl rfl ?_; refine hx_plain rfl ?_; refine h_len_slice rfl rfl rfl UC.out rfl rfl rfl ?_; refine hx_plain rfl ?_; refine h_cmp rfl rfl rfl rfl rfl rfl ?_; refine hx_nil ?_; refine hq_then ?_; refine hc_condDF rfl (by omega) ?_; refine hc_skip ?_; refine hq_norm_block ?_; refine hq_then ?_; refine hc_lex ?_; refine hx_plain rfl ?_; refine h_move rfl rfl rfl rfl ?_; refine hx_plain rfl ?_; refine h_arithI rfl rfl rfl rfl (by omega) rfl rfl ?_; refine hx_plain rfl ?_; refine h_assign rfl rfl rfl rfl ?_; refine hx_nil ?_)
          refine hq_round (i + 1, l.set k (⟨p, s0, s1', ents', (i : Int), lg'⟩ : PyD)) (by show xs.length - (i + 1) < xs.length - i; omega) ⟨by show i + 1 ≤ xs.length; omega, by show (l.set k _).length = 10; rw [List.length_set, hl], fun d hd2 => ?_⟩ (.cons rfl (.cons rfl (.cons rfl .nil))) (fun w' h => ?_)
          · rcases List.mem_or_eq_of_mem_set (show d ∈ l.set k _ from hd2) with hd2 | rfl
            · exact ⟨(hI d hd2).h0.mono (by omega), (hI d hd2).h1.mono (by omega), (hI d hd2).en⟩
            · exact ⟨hs0.mono (by omega), hs1'.mono (by omega), by show ents'.length ≤ 903; omega⟩
          · exact py_back (d' := ⟨p, s0, s1', ents', (i : Int), lg'⟩) hd rfl hl (PlO_shut ⟨a, a', b, b', ba, bc⟩ h)
    · (refine hc_seq ?_; refine hc_seq ?_; refine hc_lex ?_; refine hx_plain rfl ?_; refine h_move rfl rfl rfl rfl ?_; refine hx_plain rfl ?_; refine h_move rfl rfl rfl rfl ?_; refine hx_plain rfl ?_; refine h_len_slice rfl rfl rfl UC.out rfl rfl rfl ?_; refine hx_plain rfl ?_; refine h_cmp rfl rfl rfl rfl rfl rfl ?_; refine hx_nil ?_; refine hq_then ?_; refine hc_condDF rfl (by omega) ?_; refine hc_exit ?_; refine hq_exit_then ?_; refine hq_exit_then ?_)
      exact hq_cut l ⟨hl, fun d hd => ⟨(hI d hd).h0.mono (by omega), (hI d hd).h1.mono (by omega), (hI d hd).en⟩⟩ (.cons rfl .nil) (fun _ h => h)
  rintro l ⟨hl, hI⟩
  skip
  (refine hq_exit_block ?_; refine hq_then ?_; refine hc_seq ?_; refine hc_seq ?_; refine hc_lex ?_; refine hx_plain rfl ?_; refine h_assign rfl rfl rfl rfl ?_; refine hx_nil ?_; refine hq_then ?_; refine hc_block ?_)
  refine hc_cut (id := 6) (Y := Unit) (fun _ => []) (fun _ => []) (fun _ => True) ?_ ?_
  · refine hc_loop (X := Nat) (fun i => [(4, .slice la 10 lc), (11, .int .i64 (i : Int))]) (fun _ => [RowV ptrE 55 (.slice la 10 lc) (l.map PyD.p), pySh l]) (fun i => i ≤ 10) (fun i => 10 - i) 0 (.cons rfl (.cons rfl .nil)) (Nat.zero_le _) (fun _ h => h) ?_
    intro i hi
    by_cases hlt : i < 10
    · obtain ⟨⟨p, s0, s1, ents, st, lg⟩, hd⟩ : ∃ d, l[i]? = some d := ⟨_, List.getElem?_eq_getElem (by omega)⟩
      obtain ⟨hs0, hs1, hen⟩ := hI _ (List.mem_iff_getElem?.2 ⟨i, hd⟩)
      dsimp only at hs0 hs1 hen
      have e2 : (l.map PyD.p)[((i : Nat) : Int).toNat]? = some p := by rw [List.getElem?_map]; show (l[i]?).map _ = _; rw [hd]; rfl
      have hml : (l.map PyD.p).length = 10 := by rw [List.length_map, hl]
      (refine hc_seq ?_; refine hc_seq ?_; refine hc_lex ?_; refine hx_plain rfl ?_; refine h_move rfl rfl rfl rfl ?_; refine hx_plain rfl ?_; refine h_cmp rfl rfl rfl rfl rfl rfl ?_; refine hx_nil ?_; refine hq_then ?_; refine hc_condDT rfl (by omega) ?_; refine hc_skip ?_; refine hq_then ?_; refine hc_seq ?_; refine hc_block ?_; refine hc_seq ?_; refine hc_lex ?_; refine hx_plain rfl ?_; refine h_assign rfl rfl rfl rfl ?_; refine hx_nil ?_; refine hq_then ?_; refine hc_block ?_)
      refine hc_cut (id := 8) (Y := Unit) (fun _ => [(4, .slice la 10 lc), (11, .int .i64 (i : Int))]) (fun _ => [RowV ptrE 55 (.slice la 10 lc) (l.map PyD.p), pySh l]) (fun _ => True) ?_ ?_
      · refine hc_loop (X := Nat) (fun j => [(4, .slice la 10 lc), (11, .int .i64 (i : Int)), (12, .int .i64 (j : Int))]) (fun _ => [RowV ptrE 55 (.slice la 10 lc) (l.map PyD.p), pySh l]) (fun j => j ≤ 2) (fun j => 2 - j) 0 (.cons rfl (.cons rfl (.cons rfl .nil))) (Nat.zero_le _) (fun _ h => h) ?_
        intro j hj
        by_cases hj2 : j < 2
        · refine hc_st (C' := St w nowhere [PlO p 0 s0 s1 ents st lg, pySh (l.eraseIdx i), RowV ptrE 55 (.slice la 10 lc) (l.map PyD.p)]) (fun _ h => pySh_erase hd (h.perm (List.Perm.swap _ _ _))) ?_
          refine hc_rowV (.tail (.tail .head)) ?_ ?_
          · intro _ e
            rw [e] at hml
            cases hml
          rintro g cap e
          injection e with e1' e2' e3'
          subst e1' e3'
          refine hc_open (.tail .head) PlO_open ?_
          rintro ⟨a, a', b, b', ba, bc⟩
          unfold plL
          dsimp only
          rw [plC0]
          have back : ∀ {w' : World}, St w nowhere [Blk p (.cells #[.pointer (some ⟨a, 0, none⟩), .pointer (some ⟨a', 0, none⟩), .pointer (some ⟨b, 0, none⟩), .pointer (some ⟨b', 0, none⟩), .slice ba ents.length bc, .int .i64 st, .bool lg] 60 (0, 0)), NetO a s0, NtR b s0, RowM ktE 89 (.slice ba ents.length bc) ents, Holds byteE (kH ents), NetO a' s1, NtR b' s1, Row ptrE 55 g lc (l.map PyD.p), pySh (l.eraseIdx i)] w' → St w nowhere [RowV ptrE 55 (.slice (some ⟨g, 0, none⟩) 10 lc) (l.map PyD.p), pySh l] w' := fun h => by
            have h1 : St w nowhere (PyD.pc ⟨p, s0, s1, ents, st, lg⟩ :: Row ptrE 55 g lc (l.map PyD.p) :: pySh (l.eraseIdx i) :: []) _ := PlO_shut ⟨a, a', b, b', ba, bc⟩ h
            have h2 := pySh_back hd (h1.perm ((List.Perm.swap _ _ _).cons _))
            have h3 := (h2.perm (List.Perm.swap _ _ _)).rowV_mk
            rw [hml] at h3
            exact h3
          rcases (show j = 0 ∨ j = 1 by omega) with rfl | rfl
          · (refine hc_seq ?_; refine hc_seq ?_; refine hc_lex ?_; refine hx_plain rfl ?_; refine h_move rfl rfl rfl rfl ?_; refine hx_plain rfl ?_; refine h_cmp rfl rfl rfl rfl rfl rfl ?_; refine hx_nil ?_; refine hq_then ?_; refine hc_condT rfl ?_; refine hc_skip ?_; refine hq_then ?_; refine hc_seq ?_; refine hc_block ?_; refine hc_seq ?_)
            refine hc_drawE (D := fun x => St w nowhere [Blk p (.cells #[.pointer (some ⟨a, 0, none⟩), .pointer (some ⟨a', 0, none⟩), .pointer (some ⟨b, 0, none⟩), .pointer (some ⟨b', 0, none⟩), .slice ba ents.length bc, .int .i64 st, .bool lg] 60 (0, 0)), NetO a s0, NtR b s0, RowM ktE 89 (.slice ba ents.length bc) ents, Holds byteE (kH ents), NetO a' s1, NtR b' s1, Row ptrE 55 g lc (l.map PyD.p), pySh (l.eraseIdx i)] x) (fun i => Nat.beq i 9 || Nat.beq i 19 || Nat.beq i 20) [0, 1, 2, 3, 4, 5, 6, 7, 8, 10, 11, 12, 13, 14, 15, 16, 17, 18] [9, 19, 20, 21] (by kernel_rfl) (by kernel_rfl) rfl (fun _ h => h) rfl ?_
            (refine hx_plain rfl ?_; refine h_move rfl rfl rfl rfl ?_; refine hx_plain rfl ?_; refine h_move rfl rfl rfl rfl ?_; refine hx_plain rfl ?_; refine h_rowAddr rfl rfl rfl UC.out IC.size (by omega) (by omega) rfl rfl ?_; refine hx_plain rfl ?_; refine h_rowLoad1 rfl (.tail (.tail (.tail (.tail (.tail (.tail (.tail .head))))))) rfl UC.out rfl (by with_reducible assumption) rfl rfl rfl ?_; refine hx_plain rfl ?_; refine h_move rfl rfl rfl rfl ?_; refine hx_plain rfl ?_; refine h_nilCheck rfl rfl rfl rfl ?_; refine hx_plain rfl ?_; refine h_fieldAddr0 rfl rfl FC.out rfl rfl ?_; refine hx_plain rfl ?_; refine h_indexAddrA rfl rfl rfl UC.out IC.size (by omega) rfl rfl ?_; refine hx_plain rfl ?_; refine h_load rfl rfl UC.out rfl .head rfl rfl rfl ?_; refine hx_plain rfl ?_; refine h_move rfl rfl rfl rfl ?_; refine hx_plain rfl ?_; refine h_move rfl rfl rfl rfl ?_; refine hx_plain rfl ?_; refine h_rowAddr rfl rfl rfl UC.out IC.size (by omega) (by omega) rfl rfl ?_; refine hx_plain rfl ?_; refine h_rowLoad1 rfl (.tail (.tail (.tail (.tail (.tail (.tail (.tail .head))))))) rfl UC.out rfl (by with_reducible assumption) rfl rfl rfl ?_; refine hx_plain rfl ?_; refine h_move rfl rfl rfl rfl ?_; refine hx_plain rfl ?_; refine h_nilCheck rfl rfl rfl rfl ?_; refine hx_plain rfl ?_; refine h_fieldAddr0 rfl rfl FC.out rfl rfl ?_; refine hx_plain rfl ?_; refine h_indexAddrA rfl rfl rfl UC.out IC.size (by omega) rfl rfl ?_; refine hx_plain rfl ?_; refine h_load rfl rfl UC.out rfl .head rfl rfl rfl ?_; refine hx_nil ?_)
            refine hd_call rfl rfl rfl rfl rfl rfl rfl rfl EC.out (.cons (.tail .head) .nil) (under_spec (hs0).ok (fun f hf => by have := (hs0).dat f hf; omega)) (fun v M hM x h => by subst hM; exact h.sub (.cons (.tail (.tail .head)) (.cons (.tail .head) (.cons (.tail .head) (.cons (.tail .head) (.cons (.tail .head) (.cons (.tail .head) (.cons (.tail .head) (.cons (.tail .head) (.cons (.tail .head) .nil)))))))))) ?_
            rintro u M rfl
            refine hd_call rfl rfl rfl rfl rfl rfl rfl rfl EC.out (.cons (.tail (.tail (.tail .head))) .nil) (runder_spec (hs0).ok (fun f hf => by have := (hs0).dat f hf; omega)) (fun v M hM x h => by subst hM; exact h.sub (.cons (.tail (.tail (.tail (.tail .head)))) (.cons (.tail (.tail (.tail .head))) (.cons (.tail .head) (.cons (.tail (.tail .head)) (.cons (.tail (.tail .head)) (.cons (.tail (.tail .head)) (.cons (.tail (.tail .head)) (.cons (.tail (.tail .head)) (.cons (.tail (.tail .head)) .nil)))))))))) ?_
            rintro u2 M rfl
            refine hd_callRd rfl rfl rfl rfl rfl rfl rfl rfl EC.out (fun w' h => sameFlights (h.rdFlO (.tail (.tail .head))) (h.rdFlO .head)) (fun x h => h.sub (.cons (.tail (.tail (.tail (.tail .head)))) (.cons (.tail (.tail (.tail .head))) (.cons (.tail .head) (.cons (.tail (.tail .head)) (.cons (.tail (.tail .head)) (.cons (.tail (.tail .head)) (.cons (.tail (.tail .head)) (.cons (.tail (.tail .head)) (.cons (.tail (.tail .head)) .nil)))))))))) ?_
            rw [show decide (s0.l = s0.l) = true from decide_eq_true rfl]
            refine hd_end _ rfl ?_
            (refine hx_plain rfl ?_; refine h_assign rfl rfl rfl rfl ?_; refine hx_nil ?_)
            refine hd_nil ?_
            (refine hq_then ?_; refine hc_seq ?_; refine hc_lex ?_; refine hx_plain rfl ?_; refine h_move rfl rfl rfl rfl ?_; refine hx_plain rfl ?_; refine h_not rfl rfl rfl rfl ?_; refine hx_nil ?_; refine hq_then ?_; refine hc_condF rfl ?_; refine hc_skip ?_; refine hq_norm_block ?_; refine hq_then ?_; refine hc_lex ?_; refine hx_plain rfl ?_; refine h_move rfl rfl rfl rfl ?_; refine hx_plain rfl ?_; refine h_arithI rfl rfl rfl rfl (by omega) rfl rfl ?_; refine hx_plain rfl ?_; refine h_assign rfl rfl rfl rfl ?_; refine hx_nil ?_)
            exact hq_round (0 + 1) (by show 2 - (0 + 1) < 2 - 0; decide) (by show 0 + 1 ≤ 2; decide) (.cons rfl (.cons rfl (.cons rfl .nil))) (fun w' h => back (h.sub (.cons (.tail (.tail (.tail (.tail .head)))) (.cons (.tail (.tail (.tail .head))) (.cons (.tail .head) (.cons (.tail (.tail .head)) (.cons (.tail (.tail .head)) (.cons (.tail (.tail .head)) (.cons (.tail (.tail .head)) (.cons (.tail (.tail .head)) (.cons (.tail (.tail .head)) .nil)))))))))))
          · (refine hc_seq ?_; refine hc_seq ?_; refine hc_lex ?_; refine hx_plain rfl ?_; refine h_move rfl rfl rfl rfl ?_; refine hx_plain rfl ?_; refine h_cmp rfl rfl rfl rfl rfl rfl ?_; refine hx_nil ?_; refine hq_then ?_; refine hc_condT rfl ?_; refine hc_skip ?_; refine hq_then ?_; refine hc_seq ?_; refine hc_block ?_; refine hc_seq ?_)
            refine hc_drawE (D := fun x => St w nowhere [Blk p (.cells #[.pointer (some ⟨a, 0, none⟩), .pointer (some ⟨a', 0, none⟩), .pointer (some ⟨b, 0, none⟩), .pointer (some ⟨b', 0, none⟩), .slice ba ents.length bc, .int .i64 st, .bool lg] 60 (0, 0)), NetO a s0, NtR b s0, RowM ktE 89 (.slice ba ents.length bc) ents, Holds byteE (kH ents), NetO a' s1, NtR b' s1, Row ptrE 55 g lc (l.map PyD.p), pySh (l.eraseIdx i)] x) (fun i => Nat.beq i 9 || Nat.beq i 19 || Nat.beq i 20) [0, 1, 2, 3, 4, 5, 6, 7, 8, 10, 11, 12, 13, 14, 15, 16, 17, 18] [9, 19, 20, 21] (by kernel_rfl) (by kernel_rfl) rfl (fun _ h => h) rfl ?_
            (refine hx_plain rfl ?_; refine h_move rfl rfl rfl rfl ?_; refine hx_plain rfl ?_; refine h_move rfl rfl rfl rfl ?_; refine hx_plain rfl ?_; refine h_rowAddr rfl rfl rfl UC.out IC.size (by omega) (by omega) rfl rfl ?_; refine hx_plain rfl ?_; refine h_rowLoad1 rfl (.tail (.tail (.tail (.tail (.tail (.tail (.tail .head))))))) rfl UC.out rfl (by with_reducible assumption) rfl rfl rfl ?_; refine hx_plain rfl ?_; refine h_move rfl rfl rfl rfl ?_; refine hx_plain rfl ?_; refine h_nilCheck rfl rfl rfl rfl ?_; refine hx_plain rfl ?_; refine h_fieldAddr0 rfl rfl FC.out rfl rfl ?_; refine hx_plain rfl ?_; refine h_indexAddrA rfl rfl rfl UC.out IC.size (by omega) rfl rfl ?_; refine hx_plain rfl ?_; refine h_load rfl rfl UC.out rfl .head rfl rfl rfl ?_; refine hx_plain rfl ?_; refine h_move rfl rfl rfl rfl ?_; refine hx_plain rfl ?_; refine h_move rfl rfl rfl rfl ?_; refine hx_plain rfl ?_; refine h_rowAddr rfl rfl rfl UC.out IC.size (by omega) (by omega) rfl rfl ?_; refine hx_plain rfl ?_; refine h_rowLoad1 rfl (.tail (.tail (.tail (.tail (.tail (.tail (.tail .head))))))) rfl UC.out rfl (by with_reducible assumption) rfl rfl rfl ?_; refine hx_plain rfl ?_; refine h_move rfl rfl rfl rfl ?_; refine hx_plain rfl ?_; refine h_nilCheck rfl rfl rfl rfl ?_; refine hx_plain rfl ?_; refine h_fieldAddr0 rfl rfl FC.out rfl rfl ?_; refine hx_plain rfl ?_; refine h_indexAddrA rfl rfl rfl UC.out IC.size (by omega) rfl rfl ?_; refine hx_plain rfl ?_; refine h_load rfl rfl UC.out rfl .head rfl rfl rfl ?_; refine hx_nil ?_)
            refine hd_call rfl rfl rfl rfl rfl rfl rfl rfl EC.out (.cons (.tail (.tail (.tail (.tail (.tail .head))))) .nil) (under_spec (hs1).ok (fun f hf => by have := (hs1).dat f hf; omega)) (fun v M hM x h => by subst hM; exact h.sub (.cons (.tail (.tail .head)) (.cons (.tail (.tail .head)) (.cons (.tail (.tail .head)) (.cons (.tail (.tail .head)) (.cons (.tail (.tail .head)) (.cons (.tail .head) (.cons (.tail .head) (.cons (.tail .head) (.cons (.tail .head) .nil)))))))))) ?_
            rintro u M rfl
            refine hd_call rfl rfl rfl rfl rfl rfl rfl rfl EC.out (.cons (.tail (.tail (.tail (.tail (.tail (.tail (.tail .head))))))) .nil) (runder_spec (hs1).ok (fun f hf => by have := (hs1).dat f hf; omega)) (fun v M hM x h => by subst hM; exact h.sub (.cons (.tail (.tail (.tail (.tail .head)))) (.cons (.tail (.tail (.tail (.tail .head)))) (.cons (.tail (.tail (.tail (.tail .head)))) (.cons (.tail (.tail (.tail (.tail .head)))) (.cons (.tail (.tail (.tail (.tail .head)))) (.cons (.tail (.tail (.tail .head))) (.cons (.tail .head) (.cons (.tail (.tail .head)) (.cons (.tail (.tail .head)) .nil)))))))))) ?_
            rintro u2 M rfl
            refine hd_callRd rfl rfl rfl rfl rfl rfl rfl rfl EC.out (fun w' h => sameFlights (h.rdFlO (.tail (.tail .head))) (h.rdFlO .head)) (fun x h => h.sub (.cons (.tail (.tail (.tail (.tail .head)))) (.cons (.tail (.tail (.tail (.tail .head)))) (.cons (.tail (.tail (.tail (.tail .head)))) (.cons (.tail (.tail (.tail (.tail .head)))) (.cons (.tail (.tail (.tail (.tail .head)))) (.cons (.tail (.tail (.tail .head))) (.cons (.tail .head) (.cons (.tail (.tail .head)) (.cons (.tail (.tail .head)) .nil)))))))))) ?_
            rw [show decide (s1.l = s1.l) = true from decide_eq_true rfl]
            refine hd_end _ rfl ?_
            (refine hx_plain rfl ?_; refine h_assign rfl rfl rfl rfl ?_; refine hx_nil ?_)
            refine hd_nil ?_
            (refine hq_then ?_; refine hc_seq ?_; refine hc_lex ?_; refine hx_plain rfl ?_; refine h_move rfl rfl rfl rfl ?_; refine hx_plain rfl ?_; refine h_not rfl rfl rfl rfl ?_; refine hx_nil ?_; refine hq_then ?_; refine hc_condF rfl ?_; refine hc_skip ?_; refine hq_norm_block ?_; refine hq_then ?_; refine hc_lex ?_; refine hx_plain rfl ?_; refine h_move rfl rfl rfl rfl ?_; refine hx_plain rfl ?_; refine h_arithI rfl rfl rfl rfl (by omega) rfl rfl ?_; refine hx_plain rfl ?_; refine h_assign rfl rfl rfl rfl ?_; refine hx_nil ?_)
            exact hq_round (1 + 1) (by show 2 - (1 + 1) < 2 - 1; decide) (by show 1 + 1 ≤ 2; decide) (.cons rfl (.cons rfl (.cons rfl .nil))) (fun w' h => back (h.sub (.cons (.tail (.tail (.tail (.tail .head)))) (.cons (.tail (.tail (.tail (.tail .head)))) (.cons (.tail (.tail (.tail (.tail .head)))) (.cons (.tail (.tail (.tail (.tail .head)))) (.cons (.tail (.tail (.tail (.tail .head)))) (.cons (.tail (.tail (.tail .head))) (.cons (.tail .head) (.cons (.tail (.tail .head)) (.cons (.tail (.tail .head)) .nil)))))))))))
        · (refine hc_seq ?_; refine hc_seq ?_; refine hc_lex ?_; refine hx_plain rfl ?_; refine h_move rfl rfl rfl rfl ?_; refine hx_plain rfl ?_; refine h_cmp rfl rfl rfl rfl rfl rfl ?_; refine hx_nil ?_; refine hq_then ?_; refine hc_condDF rfl (by omega) ?_; refine hc_exit ?_; refine hq_exit_then ?_; refine hq_exit_then ?_)
          exact hq_cut () trivial (.cons rfl (.cons rfl .nil)) (fun _ h => h)
      · rintro ⟨⟩ _
        (refine hq_exit_block ?_; refine hq_norm_block ?_; refine hq_then ?_; refine hc_lex ?_; refine hx_plain rfl ?_; refine h_move rfl rfl rfl rfl ?_; refine hx_plain rfl ?_; refine h_arithI rfl rfl rfl rfl (by omega) rfl rfl ?_; refine hx_plain rfl ?_; refine h_assign rfl rfl rfl rfl ?_; refine hx_nil ?_)
        exact hq_round (i + 1) (by omega) (by omega) (.cons rfl (.cons rfl .nil)) (fun _ h => h)
    · (refine hc_seq ?_; refine hc_seq ?_; refine hc_lex ?_; refine hx_plain rfl ?_; refine h_move rfl rfl rfl rfl ?_; refine hx_plain rfl ?_; refine h_cmp rfl rfl rfl rfl rfl rfl ?_; refine hx_nil ?_; refine hq_then ?_; refine hc_condDF rfl (by omega) ?_; refine hc_exit ?_; refine hq_exit_then ?_; refine hq_exit_then ?_)
      exact hq_cut () trivial .nil (fun _ h => h.drop.drop)
  · rintro ⟨⟩ _
    (refine hq_exit_block ?_; refine hq_then ?_; refine hc_seq ?_; refine hc_lex ?_; refine hx_plain rfl ?_; refine h_assign rfl rfl rfl rfl ?_; refine hx_nil ?_; refine hq_then ?_; refine hc_ret ?_)
    exact hq_ret1 (.inr rfl) rfl rfl ⟨rfl, rfl⟩ (fun _ h => h.emp)
end Go.Proofs.Ytbfmmgbfliebhaa
