import Derived.Test.YtjnnlfeohbidhaaDoorL4
namespace Go.Proofs.YtjnnlfeohbidhaaDoor
open Go Go.Proofs Go.RowKit
set_option maxRecDepth 4000

def intE : Elem Int where
  sz := 1
  pos := by decide
  enc x := [.int .i64 x]
  len _ := rfl
  one x v hv := by
    simp at hv
    subst hv
    rfl
theorem SpecI.know {P : Program} {l : List (Nat × List Value)} {g : Nat} {f : FuncId} {args : List Value} {pre : List Asn} {post : Value → List Asn → Prop} {φ : Value → Prop} (h : SpecI P l g f args pre post) (hk : ∀ v M w0 F w, post v M → St w0 F M w → φ v) : SpecI P l g f args pre (fun v M => post v M ∧ φ v) := fun w F hs h1 h2 =>
  (h w F hs h1 h2).mono fun _ _ ⟨v, M, e, hp, hst⟩ => ⟨v, M, e, ⟨hp, hk v M _ _ _ hp hst⟩, hst⟩
theorem rowV_slice {v : Value} {xs : List Int} {T : Nat} {w0 : World} {F0 : Nat → Prop} {L : List Asn} {w : World} (h : St w0 F0 (RowV byteE T v xs :: L) w) : ∃ s : SlV, v = s.v ∧ s.len = xs.length := by
  obtain ⟨a, c, e, _⟩ := h.rdRowV .head
  exact ⟨⟨a, xs.length, c⟩, e, rfl⟩
theorem h_neqStr {P : Program} {n : Nat} {ds : List Deferred} {ops : Array Oper} {ev wk : Nat → Bool} {K : Env → (World → Prop) → Prop} {r : List Oper} {o : Oper} {k : Nat} {e : Env} {C : World → Prop} {t t2 : TypeId} {x y : Operand} {s : ByteArray} (ho : o.op = .binOp .neq t x y t2) (hx : e.op x = some (.string s)) (hy : e.op y = some (.string s))
    {dd : Nat} (hdst : o.dst = some dd) (hd : okD n (some dd) = true) (h : HX P n ds ops ev wk K r (k + 1) ((dd, .bool false) :: e) C) : HX1 P n ds ops ev wk K o r k e C :=
  h_cmpS ho hx hy (by simp) hdst hd h
abbrev big : Int := 9223372036854775807
section
variable {bs : List Int} {at_ : Nat} {er : Int} (hb : Byts bs) (hat : at_ ≤ bs.length)
include hb hat
theorem u32_form : (U32R bs at_ er big).2.1 ≤ bs.length ∧ ((U32R bs at_ er big).2.2 = 0 → at_ + 4 ≤ bs.length ∧ bs.take (U32R bs at_ er big).2.1 = bs.take at_ ++ dg (IntKind.u64.wrap (U32R bs at_ er big).1) 4) ∧ ((U32R bs at_ er big).2.2 ≠ 0 → (U32R bs at_ er big).2.1 = at_ ∧ (U32R bs at_ er big).1 = 0) := by
  unfold U32R
  split
  · rename_i h; exact ⟨hat, fun h0 => absurd h0 h, fun _ => ⟨rfl, rfl⟩⟩
  · split
    · exact ⟨hat, fun h0 => by simp at h0, fun _ => ⟨rfl, rfl⟩⟩
    · rename_i h
      split
      · exact ⟨by show at_ + 4 ≤ _; omega, fun _ => ⟨by omega, by show bs.take (at_ + 4) = _ ++ dg (IntKind.u64.wrap (N4 bs at_)) 4; rw [again4 hb (by omega), take_more]⟩, fun h0 => absurd rfl h0⟩
      · exact ⟨hat, fun h0 => by simp at h0, fun _ => ⟨rfl, rfl⟩⟩
theorem u64_form : (U64R bs at_ er big).2.1 ≤ bs.length ∧ ((U64R bs at_ er big).2.2 = 0 → at_ + 8 ≤ bs.length ∧ bs.take (U64R bs at_ er big).2.1 = bs.take at_ ++ dg (IntKind.u64.wrap (U64R bs at_ er big).1) 8) ∧ ((U64R bs at_ er big).2.2 ≠ 0 → (U64R bs at_ er big).2.1 = at_ ∧ (U64R bs at_ er big).1 = 0) := by
  unfold U64R
  split
  · rename_i h; exact ⟨hat, fun h0 => absurd h0 h, fun _ => ⟨rfl, rfl⟩⟩
  · split
    · exact ⟨hat, fun h0 => by simp at h0, fun _ => ⟨rfl, rfl⟩⟩
    · rename_i h
      split
      · rename_i h2
        refine ⟨by show at_ + 8 ≤ _; omega, fun _ => ⟨by omega, ?_⟩, fun h0 => absurd rfl h0⟩
        show bs.take (at_ + 8) = _ ++ dg (IntKind.u64.wrap (IntKind.i64.wrap (N8 bs at_))) 8
        obtain ⟨_, n2, n3⟩ := N8_in (at_ := at_) hb
        have h3 : N8 bs at_ ≤ 9223372036854775807 := by have := h2.2; rwa [u64_in (by decide)] at this
        rw [wrapI_in (by omega), u64_in (by omega), again8 hb (by omega), take_more]
      · exact ⟨hat, fun h0 => by simp at h0, fun _ => ⟨rfl, rfl⟩⟩
theorem sum_form : (SumR bs at_ er).2.1 ≤ bs.length ∧ ((SumR bs at_ er).2.2 = 0 → at_ + 8 ≤ bs.length ∧ bs.take (SumR bs at_ er).2.1 = bs.take at_ ++ dg (SumR bs at_ er).1 8) ∧ ((SumR bs at_ er).2.2 ≠ 0 → (SumR bs at_ er).2.1 = at_ ∧ (SumR bs at_ er).1 = 0) := by
  unfold SumR
  split
  · rename_i h; exact ⟨hat, fun h0 => absurd h0 h, fun _ => ⟨rfl, rfl⟩⟩
  · split
    · exact ⟨hat, fun h0 => by simp at h0, fun _ => ⟨rfl, rfl⟩⟩
    · rename_i h
      exact ⟨by show at_ + 8 ≤ _; omega, fun _ => ⟨by omega, by show bs.take (at_ + 8) = _ ++ dg (N8 bs at_) 8; rw [again8 hb (by omega), take_more]⟩, fun h0 => absurd rfl h0⟩
theorem flag_form : (FlagR bs at_ er).2.1 ≤ bs.length ∧ ((FlagR bs at_ er).2.2 = 0 → at_ + 4 ≤ bs.length ∧ bs.take (FlagR bs at_ er).2.1 = bs.take at_ ++ dg (IntKind.u64.wrap (if (FlagR bs at_ er).1 = true then 1 else 0)) 4) ∧ ((FlagR bs at_ er).2.2 ≠ 0 → (FlagR bs at_ er).2.1 = at_ ∧ (FlagR bs at_ er).1 = false) := by
  unfold FlagR
  split
  · rename_i h; exact ⟨hat, fun h0 => absurd h0 h, fun _ => ⟨rfl, rfl⟩⟩
  · split
    · exact ⟨hat, fun h0 => by simp at h0, fun _ => ⟨rfl, rfl⟩⟩
    · rename_i h
      split
      · rename_i h2
        refine ⟨by show at_ + 4 ≤ _; omega, fun _ => ⟨by omega, ?_⟩, fun h0 => absurd rfl h0⟩
        obtain ⟨n1, n2, n3⟩ := N4_eq hb at_
        show bs.take (at_ + 4) = _ ++ dg (IntKind.u64.wrap (if decide (numR ((bs.drop at_).take 4) = 1) = true then 1 else 0)) 4
        have : (if decide (numR ((bs.drop at_).take 4) = 1) = true then (1 : Int) else 0) = N4 bs at_ := by
          rw [n1]
          by_cases h3 : numR ((bs.drop at_).take 4) = 1
          · rw [if_pos (by simpa using h3), h3]
          · rw [if_neg (by simpa using h3)]; omega
        rw [this, again4 hb (by omega), take_more]
      · exact ⟨hat, fun h0 => by simp at h0, fun _ => ⟨rfl, rfl⟩⟩
theorem body_form : (BodyR bs at_ er big).2.1 ≤ bs.length ∧ ((BodyR bs at_ er big).2.2 = 0 → at_ + (BodyR bs at_ er big).1.length ≤ bs.length ∧ bs.take (BodyR bs at_ er big).2.1 = bs.take at_ ++ fieldB (BodyR bs at_ er big).1) ∧ ((BodyR bs at_ er big).2.2 ≠ 0 → (BodyR bs at_ er big).2.1 = at_ ∧ (BodyR bs at_ er big).1 = []) ∧ Byts (BodyR bs at_ er big).1 ∧ (BodyR bs at_ er big).1.length ≤ bs.length := by
  unfold BodyR
  split
  · rename_i h; exact ⟨hat, fun h0 => absurd h0 h, fun _ => ⟨rfl, rfl⟩, (fun x hx => by cases hx), Nat.zero_le _⟩
  · split
    · rename_i h
      obtain ⟨k1, k2, k3, k4, k5⟩ := bodyE_ok h
      refine ⟨k4, fun _ => ⟨?_, ?_⟩, fun h0 => absurd rfl h0, byts_sub hb _ _, ?_⟩
      · show at_ + ((bs.drop (at_ + 4)).take (NB bs at_)).length ≤ _
        rw [take_len (by omega)]; omega
      · show bs.take (at_ + 4 + NB bs at_ + padN (NB bs at_)) = _ ++ fieldB ((bs.drop (at_ + 4)).take (NB bs at_))
        rw [againB hb h, take_more]
        congr 1
        omega
      · show ((bs.drop (at_ + 4)).take (NB bs at_)).length ≤ _
        rw [take_len (by omega)]; omega
    · rename_i h
      exact ⟨hat, fun h0 => absurd h0 h, fun _ => ⟨rfl, rfl⟩, (fun x hx => by cases hx), Nat.zero_le _⟩
end
/-- A reader with an error stays as it is. -/
theorem stuck64 {bs : List Int} {at_ : Nat} {er most : Int} (h : er ≠ 0) : U64R bs at_ er most = (0, at_, er) := if_pos h
theorem stuckB {bs : List Int} {at_ : Nat} {er most : Int} (h : er ≠ 0) : BodyR bs at_ er most = ([], at_, er) := if_pos h
theorem stuckC {bs : List Int} {at_ : Nat} {er : Int} (h : er ≠ 0) : CloseR bs at_ er = er := if_neg (fun h' => h h'.1)

/-- Where the ways of the switch meet. -/
structure OfY where
  t : ItM
  ds : List Int
  at2 : Nat
  er2 : Int
structure OfOk (bs : List Int) (at_ : Nat) (y : OfY) : Prop where
  at2 : y.at2 ≤ bs.length
  byts : Byts y.ds
  len : y.t.sl.len = y.ds.length
  ok : y.er2 = 0 → at_ + y.ds.length ≤ bs.length ∧ bs.take y.at2 = bs.take at_ ++ itB y.t y.ds
  bad : y.er2 ≠ 0 → y.at2 = at_ ∧ y.t.x = 0 ∧ y.t.s = 0 ∧ y.ds = []
set_option maxHeartbeats 8000000 in
theorem oneform_law {E : Addr} {g : Nat} {w : World} {v1 v2 : Value} {bs ks : List Int} (hI : Glo (gl E) g w) (h1 : Rd byteE w v1 bs) (h2 : Rd intE w v2 ks) (hb : Byts bs) (hl : bs.length ≤ 140737488351232) :
    Calls Tryd.prog 9 [v1, v2].toArray w (fun en w' => en = .returned (.bool true) ∧ But w w' nowhere) := by
  have hF : ∀ b, nowhere b → g ≤ b := fun _ h => h.elim
  obtain ⟨a1, c1, e1, l1, m1, k1⟩ := id h1
  subst e1
  obtain ⟨a2, c2, rfl, l2, m2, k2⟩ := h2
  refine reads_of Tryd.func9 rfl rfl (Nat.le_of_ble_eq_true rfl) ?_
  (refine hc_seq ?_; refine hc_lex ?_; refine hx_plain rfl ?_; refine h_assign rfl rfl rfl rfl ?_; refine hx_nil ?_; refine hq_then ?_; refine hc_seq ?_; refine hc_lex ?_; refine hx_plain rfl ?_)
  refine h_callI hI hF rfl rfl rfl rfl rfl rfl rfl rfl EC.out .nil (head_spec E g) ?_
  rintro u M ⟨rfl, rfl⟩
  (refine hx_plain rfl ?_; refine h_assign rfl rfl rfl rfl ?_; refine hx_nil ?_; refine hq_then ?_; refine hc_seq ?_; refine hc_seq ?_; refine hc_lex ?_; refine hx_plain rfl ?_; refine h_move rfl rfl rfl rfl ?_; refine hx_plain rfl ?_; refine h_not rfl rfl rfl rfl ?_; refine hx_nil ?_; refine hq_then ?_; refine hc_condF rfl ?_; refine hc_skip ?_; refine hq_then ?_; refine hc_seq ?_; refine hc_lex ?_; refine hx_plain rfl ?_; refine h_move rfl rfl rfl rfl ?_; refine hx_plain rfl ?_)
  refine h_callW (post := fun u M => ∃ p, u = .pointer (some ⟨p, 0, none⟩) ∧ M = [RdrO p bs 0 0 0]) rfl rfl rfl rfl rfl rfl rfl rfl EC.out (fun w' h => newReader_makes (h.rd h1) (by omega)) ?_
  rintro u M ⟨p, rfl, rfl⟩
  (refine hx_plain rfl ?_; refine h_assign rfl rfl rfl rfl ?_; refine hx_nil ?_; refine hq_then ?_; refine hc_seq ?_; refine hc_lex ?_; refine hx_plain rfl ?_; refine h_assign rfl rfl rfl rfl ?_; refine hx_nil ?_; refine hq_then ?_; refine hc_seq ?_; refine hc_seq ?_; refine hc_lex ?_; refine hx_plain rfl ?_; refine h_assign rfl rfl rfl rfl ?_; refine hx_nil ?_; refine hq_then ?_; refine hc_block ?_)
  refine hc_cut (id := 0) (Y := Unit) (fun _ => []) (fun _ => []) (fun _ => True) ?_ ?_
  · refine hc_loop (X := Nat × Value × Nat × Int) (fun x => [(0, .slice a1 bs.length c1), (1, .slice a2 ks.length c2), (6, .pointer (some ⟨p, 0, none⟩)), (7, x.2.1), (8, .int .i64 (x.1 : Int))]) (fun x => [RdrX p bs x.2.2.1 x.2.2.2, RowV byteE 5 x.2.1 (bs.take x.2.2.1)]) (fun x => x.1 ≤ ks.length ∧ x.2.2.1 ≤ bs.length) (fun x => ks.length - x.1) (0, .slice none 0 0, 0, 0) (.cons rfl (.cons rfl (.cons rfl (.cons rfl (.cons rfl .nil))))) ⟨Nat.zero_le _, Nat.zero_le _⟩ (fun _ h => (St.rowV_nil (RdrO.toX h)).perm (List.Perm.swap _ _ _)) ?_
    rintro ⟨i, va, at_, er⟩ ⟨hi, hat⟩
    dsimp only at hi hat ⊢
    by_cases hlt : i < ks.length ∧ i < 300
    · have hps : ks ≠ [] := by
        intro e
        rw [e] at hlt
        exact absurd hlt.1 (Nat.not_lt_zero _)
      obtain ⟨g2, o2, rfl, r1⟩ := k2.resolve_left hps
      have e1 : ks[((i : Nat) : Int).toNat]? = some ks[i] := List.getElem?_eq_getElem hlt.1
      obtain ⟨hlt1, hlt2⟩ := hlt
      obtain ⟨kd, hkd⟩ : ∃ kd, ks[i] = kd := ⟨_, rfl⟩
      rw [hkd] at e1
      refine hc_seq ?_
      refine hc_seq ?_
      refine hc_lex ?_
      (refine hx_plain rfl ?_; refine h_move rfl rfl rfl rfl ?_; refine hx_plain rfl ?_; refine h_move rfl rfl rfl rfl ?_; refine hx_plain rfl ?_; refine h_len_slice rfl rfl rfl UC.out rfl rfl rfl ?_; refine hx_plain rfl ?_; refine h_cmp rfl rfl rfl rfl rfl rfl ?_; refine hx_plain rfl ?_; refine h_move rfl rfl rfl rfl ?_; refine hx_gT rfl rfl rfl (by omega) ?_; refine hx_yes rfl rfl rfl ?_; refine h_move rfl rfl rfl rfl ?_; refine hx_yes rfl rfl rfl ?_; refine h_cmp rfl rfl rfl rfl rfl rfl ?_; refine hx_plain rfl ?_; refine h_pickT rfl rfl rfl rfl rfl ?_; refine hx_nil ?_; refine hq_then ?_)
      refine hc_condDT rfl (by omega) ?_
      refine hc_skip ?_
      refine hq_then ?_
      refine hc_seq ?_
      refine hc_block ?_
      refine hc_seq ?_
      refine hc_lex ?_
      (refine hx_plain rfl ?_; refine h_move rfl rfl rfl rfl ?_; refine hx_plain rfl ?_; refine h_move rfl rfl rfl rfl ?_; refine hx_plain rfl ?_; refine h_indexAddr rfl rfl rfl UC.out IC.size (by omega) (by omega) rfl rfl ?_; refine hx_plain rfl ?_; refine h_rdLoad1 rfl r1 rfl UC.out rfl (by with_reducible assumption) rfl rfl rfl ?_; refine hx_plain rfl ?_; refine h_build rfl inferInstance rfl rfl rfl rfl ?_; refine hx_plain rfl ?_; (refine h_alloc rfl rfl IC.zero rfl rfl rfl (fun _ => ?_)); refine hx_plain rfl ?_; refine h_storeAll rfl rfl rfl rfl rfl rfl IC.size .head rfl rfl rfl (List.all_eq_true.1 rfl) ?_; refine hx_nil ?_; refine hq_then ?_)
      rename_i b9
      refine hc_meet (Y := OfY) (fun y => [(0, .slice a1 bs.length c1), (1, .slice (some ⟨g2, o2, none⟩) ks.length c2), (6, .pointer (some ⟨p, 0, none⟩)), (7, va), (8, .int .i64 (i : Int)), (9, .pointer (some ⟨b9, 0, none⟩))]) (fun y => [Blk b9 (.cells #[.int .i64 y.t.k, .int .i64 y.t.x, .int .u64 y.t.s, y.t.sl.v] 28 (0, 0)), RdP y.t.sl.v y.ds, RdrX p bs y.at2 y.er2, RowV byteE 5 va (bs.take at_)]) (OfOk bs at_) ?_ ?_
      · by_cases c1 : kd = 1
        · subst c1
          (refine hc_seq ?_; refine hc_lex ?_; refine hx_plain rfl ?_; refine h_move rfl rfl rfl rfl ?_; refine hx_plain rfl ?_; refine h_move rfl rfl rfl rfl ?_; refine hx_plain rfl ?_; refine h_indexAddr rfl rfl rfl UC.out IC.size (by omega) (by omega) rfl rfl ?_; refine hx_plain rfl ?_; refine h_rdLoad1 rfl r1 rfl UC.out rfl (by with_reducible assumption) rfl rfl rfl ?_; refine hx_nil ?_; refine hq_then ?_; refine hc_block ?_; refine hc_seq ?_; refine hc_lex ?_; refine hx_plain rfl ?_; refine h_cmp rfl rfl rfl rfl rfl rfl ?_; refine hx_plain rfl ?_; refine h_assign rfl rfl rfl rfl ?_; refine hx_nil ?_; refine hq_then ?_; refine hc_condT rfl ?_; refine hc_lex ?_; refine hx_plain rfl ?_; refine h_move rfl rfl rfl rfl ?_; refine hx_plain rfl ?_)
          refine h_callI hI hF rfl rfl rfl rfl rfl rfl rfl rfl EC.out (.cons (.tail .head) .nil) (u32_all p bs at_ er big E g (by omega) hat) ?_
          rintro u M ⟨rfl, rfl⟩
          obtain ⟨f1, f2, f3⟩ := u32_form (er := er) hb hat
          obtain ⟨⟨x, at2, er2⟩, hR⟩ : ∃ R, U32R bs at_ er big = R := ⟨_, rfl⟩
          rw [hR] at f1 f2 f3 ⊢
          dsimp only at f1 f2 f3 ⊢
          (refine hx_plain rfl ?_; refine h_fieldAddr0 rfl rfl FC.out rfl rfl ?_; refine hx_plain rfl ?_; refine h_store1 rfl rfl rfl rfl rfl rfl IC.size (.tail .head) rfl rfl rfl ?_; refine hx_nil ?_; refine hq_norm_block ?_)
          refine hq_met ⟨⟨1, x, 0, ⟨none, 0, 0⟩⟩, [], at2, er2⟩ ⟨f1, fun x hx => (by cases hx), rfl, fun h0 => ⟨hat, (f2 h0).2⟩, fun h0 => ⟨(f3 h0).1, (f3 h0).2, rfl, rfl⟩⟩ (.cons rfl (.cons rfl (.cons rfl (.cons rfl (.cons rfl (.cons rfl .nil)))))) (fun _ h => ?_)
          exact (h.rdP_nil).perm (List.Perm.swap _ _ _)
        by_cases c2 : kd = 2
        · subst c2
          (refine hc_seq ?_; refine hc_lex ?_; refine hx_plain rfl ?_; refine h_move rfl rfl rfl rfl ?_; refine hx_plain rfl ?_; refine h_move rfl rfl rfl rfl ?_; refine hx_plain rfl ?_; refine h_indexAddr rfl rfl rfl UC.out IC.size (by omega) (by omega) rfl rfl ?_; refine hx_plain rfl ?_; refine h_rdLoad1 rfl r1 rfl UC.out rfl (by with_reducible assumption) rfl rfl rfl ?_; refine hx_nil ?_; refine hq_then ?_; refine hc_block ?_; refine hc_seq ?_; refine hc_lex ?_; refine hx_plain rfl ?_; refine h_cmp rfl rfl rfl rfl rfl rfl ?_; refine hx_plain rfl ?_; refine h_assign rfl rfl rfl rfl ?_; refine hx_nil ?_; refine hq_then ?_; refine hc_condF rfl ?_; refine hc_seq ?_; refine hc_lex ?_; refine hx_plain rfl ?_; refine h_cmp rfl rfl rfl rfl rfl rfl ?_; refine hx_plain rfl ?_; refine h_assign rfl rfl rfl rfl ?_; refine hx_nil ?_; refine hq_then ?_; refine hc_condT rfl ?_; refine hc_lex ?_; refine hx_plain rfl ?_; refine h_move rfl rfl rfl rfl ?_; refine hx_plain rfl ?_)
          refine h_callI hI hF rfl rfl rfl rfl rfl rfl rfl rfl EC.out (.cons (.tail .head) .nil) (u64_all p bs at_ er big E g (by omega) hat) ?_
          rintro u M ⟨rfl, rfl⟩
          obtain ⟨f1, f2, f3⟩ := u64_form (er := er) hb hat
          obtain ⟨⟨x, at2, er2⟩, hR⟩ : ∃ R, U64R bs at_ er big = R := ⟨_, rfl⟩
          rw [hR] at f1 f2 f3 ⊢
          dsimp only at f1 f2 f3 ⊢
          (refine hx_plain rfl ?_; refine h_fieldAddr0 rfl rfl FC.out rfl rfl ?_; refine hx_plain rfl ?_; refine h_store1 rfl rfl rfl rfl rfl rfl IC.size (.tail .head) rfl rfl rfl ?_; refine hx_nil ?_; refine hq_norm_block ?_)
          refine hq_met ⟨⟨2, x, 0, ⟨none, 0, 0⟩⟩, [], at2, er2⟩ ⟨f1, fun x hx => (by cases hx), rfl, fun h0 => ⟨hat, (f2 h0).2⟩, fun h0 => ⟨(f3 h0).1, (f3 h0).2, rfl, rfl⟩⟩ (.cons rfl (.cons rfl (.cons rfl (.cons rfl (.cons rfl (.cons rfl .nil)))))) (fun _ h => ?_)
          exact (h.rdP_nil).perm (List.Perm.swap _ _ _)
        by_cases c3 : kd = 3
        · subst c3
          (refine hc_seq ?_; refine hc_lex ?_; refine hx_plain rfl ?_; refine h_move rfl rfl rfl rfl ?_; refine hx_plain rfl ?_; refine h_move rfl rfl rfl rfl ?_; refine hx_plain rfl ?_; refine h_indexAddr rfl rfl rfl UC.out IC.size (by omega) (by omega) rfl rfl ?_; refine hx_plain rfl ?_; refine h_rdLoad1 rfl r1 rfl UC.out rfl (by with_reducible assumption) rfl rfl rfl ?_; refine hx_nil ?_; refine hq_then ?_; refine hc_block ?_; refine hc_seq ?_; refine hc_lex ?_; refine hx_plain rfl ?_; refine h_cmp rfl rfl rfl rfl rfl rfl ?_; refine hx_plain rfl ?_; refine h_assign rfl rfl rfl rfl ?_; refine hx_nil ?_; refine hq_then ?_; refine hc_condF rfl ?_; refine hc_seq ?_; refine hc_lex ?_; refine hx_plain rfl ?_; refine h_cmp rfl rfl rfl rfl rfl rfl ?_; refine hx_plain rfl ?_; refine h_assign rfl rfl rfl rfl ?_; refine hx_nil ?_; refine hq_then ?_; refine hc_condF rfl ?_; refine hc_seq ?_; refine hc_lex ?_; refine hx_plain rfl ?_; refine h_cmp rfl rfl rfl rfl rfl rfl ?_; refine hx_plain rfl ?_; refine h_assign rfl rfl rfl rfl ?_; refine hx_nil ?_; refine hq_then ?_; refine hc_condT rfl ?_; refine hc_lex ?_; refine hx_plain rfl ?_; refine h_move rfl rfl rfl rfl ?_; refine hx_plain rfl ?_)
          refine h_callI hI hF rfl rfl rfl rfl rfl rfl rfl rfl EC.out (.cons (.tail .head) .nil) (sum_all p bs at_ er E g (by omega) hat) ?_
          rintro u M ⟨rfl, rfl⟩
          obtain ⟨f1, f2, f3⟩ := sum_form (er := er) hb hat
          obtain ⟨⟨x, at2, er2⟩, hR⟩ : ∃ R, SumR bs at_ er = R := ⟨_, rfl⟩
          rw [hR] at f1 f2 f3 ⊢
          dsimp only at f1 f2 f3 ⊢
          (refine hx_plain rfl ?_; refine h_fieldAddr0 rfl rfl FC.out rfl rfl ?_; refine hx_plain rfl ?_; refine h_store1 rfl rfl rfl rfl rfl rfl IC.size (.tail .head) rfl rfl rfl ?_; refine hx_nil ?_; refine hq_norm_block ?_)
          refine hq_met ⟨⟨3, 0, x, ⟨none, 0, 0⟩⟩, [], at2, er2⟩ ⟨f1, fun x hx => (by cases hx), rfl, fun h0 => ⟨hat, (f2 h0).2⟩, fun h0 => ⟨(f3 h0).1, rfl, (f3 h0).2, rfl⟩⟩ (.cons rfl (.cons rfl (.cons rfl (.cons rfl (.cons rfl (.cons rfl .nil)))))) (fun _ h => ?_)
          exact (h.rdP_nil).perm (List.Perm.swap _ _ _)
        by_cases c4 : kd = 4
        · subst c4
          (refine hc_seq ?_; refine hc_lex ?_; refine hx_plain rfl ?_; refine h_move rfl rfl rfl rfl ?_; refine hx_plain rfl ?_; refine h_move rfl rfl rfl rfl ?_; refine hx_plain rfl ?_; refine h_indexAddr rfl rfl rfl UC.out IC.size (by omega) (by omega) rfl rfl ?_; refine hx_plain rfl ?_; refine h_rdLoad1 rfl r1 rfl UC.out rfl (by with_reducible assumption) rfl rfl rfl ?_; refine hx_nil ?_; refine hq_then ?_; refine hc_block ?_; refine hc_seq ?_; refine hc_lex ?_; refine hx_plain rfl ?_; refine h_cmp rfl rfl rfl rfl rfl rfl ?_; refine hx_plain rfl ?_; refine h_assign rfl rfl rfl rfl ?_; refine hx_nil ?_; refine hq_then ?_; refine hc_condF rfl ?_; refine hc_seq ?_; refine hc_lex ?_; refine hx_plain rfl ?_; refine h_cmp rfl rfl rfl rfl rfl rfl ?_; refine hx_plain rfl ?_; refine h_assign rfl rfl rfl rfl ?_; refine hx_nil ?_; refine hq_then ?_; refine hc_condF rfl ?_; refine hc_seq ?_; refine hc_lex ?_; refine hx_plain rfl ?_; refine h_cmp rfl rfl rfl rfl rfl rfl ?_; refine hx_plain rfl ?_; refine h_assign rfl rfl rfl rfl ?_; refine hx_nil ?_; refine hq_then ?_; refine hc_condF rfl ?_; refine hc_seq ?_; refine hc_lex ?_; refine hx_plain rfl ?_; refine h_cmp rfl rfl rfl rfl rfl rfl ?_; refine hx_plain rfl ?_; refine h_assign rfl rfl rfl rfl ?_; refine hx_nil ?_; refine hq_then ?_; refine hc_condT rfl ?_; refine hc_lex ?_; refine hx_plain rfl ?_; refine h_move rfl rfl rfl rfl ?_; refine hx_plain rfl ?_)
          refine h_callI hI hF rfl rfl rfl rfl rfl rfl rfl rfl EC.out (.cons (.tail .head) .nil) (text_all p bs at_ er big E g (by omega) hat hb) ?_
          rintro u M ⟨rfl, rfl⟩
          obtain ⟨f1, f2, f3, f4, f5⟩ := body_form (er := er) hb hat
          obtain ⟨⟨x, at2, er2⟩, hR⟩ : ∃ R, BodyR bs at_ er big = R := ⟨_, rfl⟩
          rw [hR] at f1 f2 f3 f4 f5 ⊢
          dsimp only at f1 f2 f3 f4 f5 ⊢
          have hsz := strOf_size f4
          (refine hx_plain rfl ?_)
          refine h_ofString rfl rfl rfl UC.out UC.out UC.out (by rw [hsz]; unfold maxLen; omega) rfl rfl (fun b cap => ?_)
          rw [strBytes_of f4]
          (refine hx_plain rfl ?_; refine h_fieldAddr0 rfl rfl FC.out rfl rfl ?_; refine hx_plain rfl ?_; refine h_store1 rfl rfl rfl rfl rfl rfl IC.size (.tail (.tail .head)) rfl rfl rfl ?_; refine hx_nil ?_; refine hq_norm_block ?_)
          refine hq_met ⟨⟨4, 0, 0, ⟨some ⟨b, 0, none⟩, x.length, cap⟩⟩, x, at2, er2⟩ ⟨f1, f4, rfl, f2, fun h0 => ⟨(f3 h0).1, rfl, rfl, (f3 h0).2⟩⟩ (.cons rfl (.cons rfl (.cons rfl (.cons rfl (.cons rfl (.cons rfl .nil)))))) (fun _ h => ?_)
          exact (h.perm (List.Perm.swap _ _ _)).bytB_rdP.perm (List.Perm.swap _ _ _)
        by_cases c5 : kd = 5
        · subst c5
          (refine hc_seq ?_; refine hc_lex ?_; refine hx_plain rfl ?_; refine h_move rfl rfl rfl rfl ?_; refine hx_plain rfl ?_; refine h_move rfl rfl rfl rfl ?_; refine hx_plain rfl ?_; refine h_indexAddr rfl rfl rfl UC.out IC.size (by omega) (by omega) rfl rfl ?_; refine hx_plain rfl ?_; refine h_rdLoad1 rfl r1 rfl UC.out rfl (by with_reducible assumption) rfl rfl rfl ?_; refine hx_nil ?_; refine hq_then ?_; refine hc_block ?_; refine hc_seq ?_; refine hc_lex ?_; refine hx_plain rfl ?_; refine h_cmp rfl rfl rfl rfl rfl rfl ?_; refine hx_plain rfl ?_; refine h_assign rfl rfl rfl rfl ?_; refine hx_nil ?_; refine hq_then ?_; refine hc_condF rfl ?_; refine hc_seq ?_; refine hc_lex ?_; refine hx_plain rfl ?_; refine h_cmp rfl rfl rfl rfl rfl rfl ?_; refine hx_plain rfl ?_; refine h_assign rfl rfl rfl rfl ?_; refine hx_nil ?_; refine hq_then ?_; refine hc_condF rfl ?_; refine hc_seq ?_; refine hc_lex ?_; refine hx_plain rfl ?_; refine h_cmp rfl rfl rfl rfl rfl rfl ?_; refine hx_plain rfl ?_; refine h_assign rfl rfl rfl rfl ?_; refine hx_nil ?_; refine hq_then ?_; refine hc_condF rfl ?_; refine hc_seq ?_; refine hc_lex ?_; refine hx_plain rfl ?_; refine h_cmp rfl rfl rfl rfl rfl rfl ?_; refine hx_plain rfl ?_; refine h_assign rfl rfl rfl rfl ?_; refine hx_nil ?_; refine hq_then ?_; refine hc_condF rfl ?_; refine hc_seq ?_; refine hc_lex ?_; refine hx_plain rfl ?_; refine h_cmp rfl rfl rfl rfl rfl rfl ?_; refine hx_plain rfl ?_; refine h_assign rfl rfl rfl rfl ?_; refine hx_nil ?_; refine hq_then ?_; refine hc_condT rfl ?_; refine hc_lex ?_; refine hx_plain rfl ?_; refine h_move rfl rfl rfl rfl ?_; refine hx_plain rfl ?_)
          refine h_callI hI hF rfl rfl rfl rfl rfl rfl rfl rfl EC.out (.cons (.tail .head) .nil) ((bytes_all p bs at_ er big E g (by omega) hat hb).know (φ := fun v => ∃ s : SlV, v = s.v ∧ s.len = (BodyR bs at_ er big).1.length) (fun v M w0 F w hp hst => by subst hp; exact rowV_slice hst)) ?_
          rintro u M ⟨rfl, s, rfl, hs⟩
          obtain ⟨f1, f2, f3, f4, f5⟩ := body_form (er := er) hb hat
          obtain ⟨⟨x, at2, er2⟩, hR⟩ : ∃ R, BodyR bs at_ er big = R := ⟨_, rfl⟩
          rw [hR] at f1 f2 f3 f4 f5 hs ⊢
          dsimp only at f1 f2 f3 f4 f5 hs ⊢
          (refine hx_plain rfl ?_; refine h_fieldAddr0 rfl rfl FC.out rfl rfl ?_; refine hx_plain rfl ?_; refine h_store1 rfl rfl rfl rfl rfl rfl IC.size (.tail (.tail .head)) rfl rfl rfl ?_; refine hx_nil ?_; refine hq_norm_block ?_)
          refine hq_met ⟨⟨5, 0, 0, s⟩, x, at2, er2⟩ ⟨f1, f4, hs, f2, fun h0 => ⟨(f3 h0).1, rfl, rfl, (f3 h0).2⟩⟩ (.cons rfl (.cons rfl (.cons rfl (.cons rfl (.cons rfl (.cons rfl .nil)))))) (fun _ h => ?_)
          exact (h.perm (List.Perm.swap _ _ _)).rowV_rdP.perm (List.Perm.swap _ _ _)
        (refine hc_seq ?_; refine hc_lex ?_; refine hx_plain rfl ?_; refine h_move rfl rfl rfl rfl ?_; refine hx_plain rfl ?_; refine h_move rfl rfl rfl rfl ?_; refine hx_plain rfl ?_; refine h_indexAddr rfl rfl rfl UC.out IC.size (by omega) (by omega) rfl rfl ?_; refine hx_plain rfl ?_; refine h_rdLoad1 rfl r1 rfl UC.out rfl (by with_reducible assumption) rfl rfl rfl ?_; refine hx_nil ?_; refine hq_then ?_; refine hc_block ?_; refine hc_seq ?_; refine hc_lex ?_; refine hx_plain rfl ?_; refine h_cmp rfl rfl rfl rfl rfl rfl ?_; refine hx_plain rfl ?_; refine h_assign rfl rfl rfl rfl ?_; refine hx_nil ?_; refine hq_then ?_; refine hc_condDF rfl (by omega) ?_; refine hc_seq ?_; refine hc_lex ?_; refine hx_plain rfl ?_; refine h_cmp rfl rfl rfl rfl rfl rfl ?_; refine hx_plain rfl ?_; refine h_assign rfl rfl rfl rfl ?_; refine hx_nil ?_; refine hq_then ?_; refine hc_condDF rfl (by omega) ?_; refine hc_seq ?_; refine hc_lex ?_; refine hx_plain rfl ?_; refine h_cmp rfl rfl rfl rfl rfl rfl ?_; refine hx_plain rfl ?_; refine h_assign rfl rfl rfl rfl ?_; refine hx_nil ?_; refine hq_then ?_; refine hc_condDF rfl (by omega) ?_; refine hc_seq ?_; refine hc_lex ?_; refine hx_plain rfl ?_; refine h_cmp rfl rfl rfl rfl rfl rfl ?_; refine hx_plain rfl ?_; refine h_assign rfl rfl rfl rfl ?_; refine hx_nil ?_; refine hq_then ?_; refine hc_condDF rfl (by omega) ?_; refine hc_seq ?_; refine hc_lex ?_; refine hx_plain rfl ?_; refine h_cmp rfl rfl rfl rfl rfl rfl ?_; refine hx_plain rfl ?_; refine h_assign rfl rfl rfl rfl ?_; refine hx_nil ?_; refine hq_then ?_; refine hc_condDF rfl (by omega) ?_; refine hc_seq ?_; refine hc_lex ?_; refine hx_plain rfl ?_; refine h_fieldAddr0 rfl rfl FC.out rfl rfl ?_; refine hx_plain rfl ?_; refine h_store1 rfl rfl rfl rfl rfl rfl IC.size .head rfl rfl rfl ?_; refine hx_nil ?_; refine hq_then ?_; refine hc_seq ?_; refine hc_lex ?_; refine hx_plain rfl ?_; refine h_move rfl rfl rfl rfl ?_; refine hx_plain rfl ?_)
        refine h_callI hI hF rfl rfl rfl rfl rfl rfl rfl rfl EC.out (.cons (.tail .head) .nil) (flag_all p bs at_ er E g (by omega) hat) ?_
        rintro u M ⟨rfl, rfl⟩
        obtain ⟨f1, f2, f3⟩ := flag_form (er := er) hb hat
        obtain ⟨⟨x, at2, er2⟩, hR⟩ : ∃ R, FlagR bs at_ er = R := ⟨_, rfl⟩
        rw [hR] at f1 f2 f3 ⊢
        dsimp only at f1 f2 f3 ⊢
        cases x with
        | true =>
          (refine hx_plain rfl ?_; refine h_assign rfl rfl rfl rfl ?_; refine hx_nil ?_; refine hq_then ?_; refine hc_seq ?_; refine hc_lex ?_; refine hx_plain rfl ?_; refine h_move rfl rfl rfl rfl ?_; refine hx_nil ?_; refine hq_then ?_; refine hc_condT rfl ?_; refine hc_lex ?_; refine hx_plain rfl ?_; refine h_fieldAddr0 rfl rfl FC.out rfl rfl ?_; refine hx_plain rfl ?_; refine h_store1 rfl rfl rfl rfl rfl rfl IC.size (.tail .head) rfl rfl rfl ?_; refine hx_nil ?_; refine hq_norm_block ?_)
          refine hq_met ⟨⟨1, 1, 0, ⟨none, 0, 0⟩⟩, [], at2, er2⟩ ⟨f1, fun x hx => (by cases hx), rfl, fun h0 => ⟨hat, (f2 h0).2⟩, fun h0 => (by cases (f3 h0).2)⟩ (.cons rfl (.cons rfl (.cons rfl (.cons rfl (.cons rfl (.cons rfl .nil)))))) (fun _ h => ?_)
          exact (h.rdP_nil).perm (List.Perm.swap _ _ _)
        | false =>
          (refine hx_plain rfl ?_; refine h_assign rfl rfl rfl rfl ?_; refine hx_nil ?_; refine hq_then ?_; refine hc_seq ?_; refine hc_lex ?_; refine hx_plain rfl ?_; refine h_move rfl rfl rfl rfl ?_; refine hx_nil ?_; refine hq_then ?_; refine hc_condF rfl ?_; refine hc_skip ?_; refine hq_norm_block ?_)
          refine hq_met ⟨⟨1, 0, 0, ⟨none, 0, 0⟩⟩, [], at2, er2⟩ ⟨f1, fun x hx => (by cases hx), rfl, fun h0 => ⟨hat, (f2 h0).2⟩, fun h0 => ⟨(f3 h0).1, rfl, rfl, rfl⟩⟩ (.cons rfl (.cons rfl (.cons rfl (.cons rfl (.cons rfl (.cons rfl .nil)))))) (fun _ h => ?_)
          exact (h.rdP_nil).sub (.cons (.tail (.tail .head)) (.cons .head (.cons .head (.cons .head .nil))))
      · rintro ⟨t, ds, at2, er2⟩ ⟨q1, q2, q2b, q3, q4⟩
        dsimp only at q1 q2 q2b q3 q4 ⊢
        (refine hc_seq ?_; refine hc_lex ?_; refine hx_plain rfl ?_; refine h_move rfl rfl rfl rfl ?_; refine hx_plain rfl ?_)
        refine h_call rfl rfl rfl rfl rfl rfl rfl rfl EC.out (.cons (.tail (.tail .head)) .nil) (err_spec p bs at2 er2) ?_
        rintro u M ⟨rfl, rfl⟩
        (refine hx_plain rfl ?_; refine h_move rfl rfl rfl rfl ?_; refine hx_plain rfl ?_; refine h_extract rfl rfl rfl rfl rfl ?_; refine hx_plain rfl ?_; refine h_extract rfl rfl rfl rfl rfl ?_; refine hx_plain rfl ?_; refine h_assign rfl rfl rfl rfl ?_; refine hx_plain rfl ?_; refine h_assign rfl rfl rfl rfl ?_; refine hx_nil ?_; refine hq_then ?_; refine hc_seq ?_; refine hc_seq ?_; refine hc_lex ?_; refine hx_plain rfl ?_; refine h_move rfl rfl rfl rfl ?_; refine hx_plain rfl ?_)
        refine h_callR rfl rfl rfl rfl rfl rfl EC.out ((num_spec er2).reads _) ?_
        by_cases h0 : er2 = 0
        · subst h0
          obtain ⟨q5, q6⟩ := q3 rfl
          have hlen : (bs.take at2).length = at2 := by rw [List.length_take]; omega
          have hlen0 : (bs.take at_).length = at_ := by rw [List.length_take]; omega
          (refine hx_plain rfl ?_; refine h_cmp rfl rfl rfl rfl rfl rfl ?_; refine hx_nil ?_; refine hq_then ?_; refine hc_condT rfl ?_; refine hc_seq ?_; refine hc_lex ?_; refine hx_plain rfl ?_; refine h_move rfl rfl rfl rfl ?_; refine hx_plain rfl ?_; refine h_loadP rfl rfl UC.out rfl IC.size (.tail .head) rfl rfl rfl rfl ?_; refine hx_plain rfl ?_)
          refine h_callW (post := fun u M => M = [RowV byteE 5 u (bs.take at2)]) rfl rfl rfl rfl rfl rfl rfl rfl EC.out (fun w' h => by rw [q6]; exact put_makes t (h.rdRowV (.tail (.tail (.tail .head)))) (h.rdRdP (.tail (.tail .head))) q2 (by omega)) ?_
          rintro vn M rfl
          (refine hx_plain rfl ?_; refine h_assign rfl rfl rfl rfl ?_; refine hx_nil ?_; refine hq_then ?_; refine hc_seq ?_; refine hc_seq ?_; refine hc_lex ?_; refine hx_plain rfl ?_; refine h_move rfl rfl rfl rfl ?_; refine hx_plain rfl ?_; refine h_move rfl rfl rfl rfl ?_; refine hx_plain rfl ?_)
          refine h_lenV rfl rfl .head rfl UC.out rfl rfl rfl ?_
          rw [hlen]
          (refine hx_plain rfl ?_; refine h_cmp rfl rfl rfl rfl rfl rfl ?_; refine hx_plain rfl ?_; refine h_move rfl rfl rfl rfl ?_; refine hx_gF rfl rfl rfl (by omega) ?_; refine hx_yes rfl rfl rfl ?_; refine h_move rfl rfl rfl rfl ?_; refine hx_yes rfl rfl rfl ?_; refine h_move rfl rfl rfl rfl ?_; refine hx_yes rfl rfl rfl ?_; refine h_len_slice rfl rfl rfl UC.out rfl rfl rfl ?_; refine hx_yes rfl rfl rfl ?_; refine h_cmp rfl rfl rfl rfl rfl rfl ?_; refine hx_plain rfl ?_; refine h_pickF rfl rfl rfl rfl rfl ?_; refine hx_plain rfl ?_; refine h_move rfl rfl rfl rfl ?_; refine hx_gF rfl rfl rfl (by omega) ?_; refine hx_yes rfl rfl rfl ?_; refine h_move rfl rfl rfl rfl ?_; refine hx_yes rfl rfl rfl ?_; refine h_move rfl rfl rfl rfl ?_; refine hx_yes rfl rfl rfl ?_; refine h_move rfl rfl rfl rfl ?_; refine hx_yes rfl rfl rfl ?_)
          refine h_sliceTo rfl rfl rfl UC.out IC.size (by omega) rfl rfl ?_
          (refine hx_yes rfl rfl rfl ?_)
          refine h_callR rfl rfl rfl rfl rfl rfl EC.out (fun w' h => sameBytes (xs := bs.take at2) (ys := bs.take at2) (h.rdRowV .head) ((h.rd h1).takeN q1)) ?_
          rw [decide_eq_true rfl]
          (refine hx_yes rfl rfl rfl ?_; refine h_not rfl rfl rfl rfl ?_; refine hx_plain rfl ?_; refine h_pickF rfl rfl rfl rfl rfl ?_; refine hx_nil ?_; refine hq_then ?_; refine hc_condF rfl ?_; refine hc_skip ?_; refine hq_then ?_; refine hc_exit ?_; refine hq_exit_then ?_; refine hq_exit_block ?_; refine hq_then ?_; refine hc_lex ?_; refine hx_plain rfl ?_; refine h_move rfl rfl rfl rfl ?_; refine hx_plain rfl ?_; refine h_arithI rfl rfl rfl rfl (by omega) rfl rfl ?_; refine hx_plain rfl ?_; refine h_assign rfl rfl rfl rfl ?_; refine hx_nil ?_)
          refine hq_round (i + 1, vn, at2, 0) (by show ks.length - (i + 1) < ks.length - i; omega) ⟨by show i + 1 ≤ _; omega, q1⟩ (.cons rfl (.cons rfl (.cons rfl (.cons rfl (.cons rfl .nil))))) (fun _ h => h.sub (.cons (.tail .head) (.cons .head .nil)))
        · obtain ⟨rfl, q5, q6, q7⟩ := q4 h0
          have hlen0 : (bs.take at2).length = at2 := by rw [List.length_take]; omega
          have q8 : t.sl.len = 0 := by rw [q2b, q7]; rfl
          obtain ⟨tk, tx, ts, sa, sl, sc⟩ := t
          dsimp only at q5 q6 q8
          subst q5 q6 q8
          (refine hx_plain rfl ?_; refine h_cmp rfl rfl rfl rfl rfl rfl ?_; refine hx_nil ?_; refine hq_then ?_; refine hc_condDF rfl (by omega) ?_; refine hc_skip ?_; refine hq_then ?_; refine hc_seq ?_; refine hc_seq ?_; refine hc_lex ?_; refine hx_plain rfl ?_; refine h_move rfl rfl rfl rfl ?_; refine hx_plain rfl ?_; refine h_move rfl rfl rfl rfl ?_; refine hx_plain rfl ?_)
          refine h_lenV rfl rfl (.tail (.tail (.tail .head))) rfl UC.out rfl rfl rfl ?_
          rw [hlen0]
          (refine hx_plain rfl ?_; refine h_cmp rfl rfl rfl rfl rfl rfl ?_; refine hx_plain rfl ?_; refine h_move rfl rfl rfl rfl ?_; refine hx_gF rfl rfl rfl (by omega) ?_; refine hx_yes rfl rfl rfl ?_; refine h_fieldAddr0 rfl rfl FC.out rfl rfl ?_; refine hx_yes rfl rfl rfl ?_; refine h_load rfl rfl UC.out rfl (.tail .head) rfl rfl rfl ?_; refine hx_yes rfl rfl rfl ?_; refine h_cmp rfl rfl rfl rfl rfl rfl ?_; refine hx_plain rfl ?_; refine h_pickF rfl rfl rfl rfl rfl ?_; refine hx_plain rfl ?_; refine h_move rfl rfl rfl rfl ?_; refine hx_yes rfl rfl rfl ?_; refine h_fieldAddr0 rfl rfl FC.out rfl rfl ?_; refine hx_yes rfl rfl rfl ?_; refine h_load rfl rfl UC.out rfl (.tail .head) rfl rfl rfl ?_; refine hx_yes rfl rfl rfl ?_; refine h_cmp rfl rfl rfl rfl rfl rfl ?_; refine hx_plain rfl ?_; refine h_pickF rfl rfl rfl rfl rfl ?_; refine hx_plain rfl ?_; refine h_move rfl rfl rfl rfl ?_; refine hx_yes rfl rfl rfl ?_; refine h_fieldAddr0 rfl rfl FC.out rfl rfl ?_; refine hx_yes rfl rfl rfl ?_; refine h_load rfl rfl UC.out rfl (.tail .head) rfl rfl rfl ?_; refine hx_yes rfl rfl rfl ?_; refine h_len_slice rfl rfl rfl UC.out rfl rfl rfl ?_; refine hx_yes rfl rfl rfl ?_; refine h_cmp rfl rfl rfl rfl rfl rfl ?_; refine hx_plain rfl ?_; refine h_pickF rfl rfl rfl rfl rfl ?_; refine hx_nil ?_; refine hq_then ?_; refine hc_condF rfl ?_; refine hc_skip ?_; refine hq_then ?_; refine hc_seq ?_; refine hc_lex ?_; refine hx_plain rfl ?_; refine h_move rfl rfl rfl rfl ?_; refine hx_plain rfl ?_)
          refine h_callI hI hF rfl rfl rfl rfl rfl rfl rfl rfl EC.out (.cons .head .nil) (u64_all p bs at2 er2 big E g (by omega) hat) ?_
          rintro u M ⟨rfl, rfl⟩
          rw [stuck64 h0]
          (refine hx_plain rfl ?_; refine h_assign rfl rfl rfl rfl ?_; refine hx_nil ?_; refine hq_then ?_; refine hc_seq ?_; refine hc_lex ?_; refine hx_plain rfl ?_; refine h_move rfl rfl rfl rfl ?_; refine hx_plain rfl ?_)
          refine h_callI hI hF rfl rfl rfl rfl rfl rfl rfl rfl EC.out (.cons .head .nil) (text_all p bs at2 er2 big E g (by omega) hat hb) ?_
          rintro u M ⟨rfl, rfl⟩
          rw [stuckB h0]
          (refine hx_plain rfl ?_; refine h_assign rfl rfl rfl rfl ?_; refine hx_nil ?_; refine hq_then ?_; refine hc_seq ?_; refine hc_lex ?_; refine hx_plain rfl ?_; refine h_move rfl rfl rfl rfl ?_; refine hx_plain rfl ?_)
          refine h_call rfl rfl rfl rfl rfl rfl rfl rfl EC.out (.cons .head .nil) (err_spec p bs at2 er2) ?_
          rintro u M ⟨rfl, rfl⟩
          (refine hx_plain rfl ?_; refine h_move rfl rfl rfl rfl ?_; refine hx_plain rfl ?_; refine h_extract rfl rfl rfl rfl rfl ?_; refine hx_plain rfl ?_; refine h_extract rfl rfl rfl rfl rfl ?_; refine hx_plain rfl ?_; refine h_assign rfl rfl rfl rfl ?_; refine hx_plain rfl ?_; refine h_assign rfl rfl rfl rfl ?_; refine hx_nil ?_; refine hq_then ?_; refine hc_seq ?_; refine hc_lex ?_; refine hx_plain rfl ?_; refine h_move rfl rfl rfl rfl ?_; refine hx_plain rfl ?_; refine h_cmp rfl rfl rfl rfl rfl rfl ?_; refine hx_plain rfl ?_; refine h_move rfl rfl rfl rfl ?_; refine hx_yes rfl rfl rfl ?_; refine h_move rfl rfl rfl rfl ?_; refine hx_yes rfl rfl rfl ?_)
          refine h_neqStr (s := ByteArray.empty) rfl rfl rfl rfl rfl ?_
          (refine hx_plain rfl ?_; refine h_pickF rfl rfl rfl rfl rfl ?_; refine hx_plain rfl ?_; refine h_move rfl rfl rfl rfl ?_; refine hx_yes rfl rfl rfl ?_; refine h_move rfl rfl rfl rfl ?_; refine hx_yes rfl rfl rfl ?_; refine h_move rfl rfl rfl rfl ?_; refine hx_yes rfl rfl rfl ?_; refine h_cmp rfl rfl rfl rfl rfl rfl ?_; refine hx_plain rfl ?_; refine h_pickF rfl rfl rfl rfl rfl ?_; refine hx_plain rfl ?_; refine h_move rfl rfl rfl rfl ?_; refine hx_gF rfl rfl rfl (by omega) ?_; refine hx_yes rfl rfl rfl ?_; refine h_move rfl rfl rfl rfl ?_; refine hx_yes rfl rfl rfl ?_; refine h_move rfl rfl rfl rfl ?_; refine hx_yes rfl rfl rfl ?_; refine h_cmp rfl rfl rfl rfl rfl rfl ?_; refine hx_plain rfl ?_; refine h_pickF rfl rfl rfl rfl rfl ?_; refine hx_plain rfl ?_; refine h_move rfl rfl rfl rfl ?_; refine hx_gF rfl rfl rfl (by omega) ?_; refine hx_yes rfl rfl rfl ?_; refine h_move rfl rfl rfl rfl ?_; refine hx_yes rfl rfl rfl ?_)
          refine h_call rfl rfl rfl rfl rfl rfl rfl rfl EC.out (.cons .head .nil) (close_spec p bs at2 er2) ?_
          rintro u M ⟨rfl, rfl⟩
          rw [stuckC h0]
          (refine hx_yes rfl rfl rfl ?_; refine h_move rfl rfl rfl rfl ?_; refine hx_yes rfl rfl rfl ?_; refine h_cmp rfl rfl rfl rfl rfl rfl ?_; refine hx_plain rfl ?_; refine h_pickF rfl rfl rfl rfl rfl ?_; refine hx_nil ?_; refine hq_then ?_; refine hc_condDF rfl (by omega) ?_; refine hc_skip ?_; refine hq_norm_block ?_; refine hq_then ?_; refine hc_lex ?_; refine hx_plain rfl ?_; refine h_move rfl rfl rfl rfl ?_; refine hx_plain rfl ?_; refine h_arithI rfl rfl rfl rfl (by omega) rfl rfl ?_; refine hx_plain rfl ?_; refine h_assign rfl rfl rfl rfl ?_; refine hx_nil ?_)
          refine hq_round (i + 1, va, at2, er2) (by show ks.length - (i + 1) < ks.length - i; omega) ⟨by show i + 1 ≤ _; omega, q1⟩ (.cons rfl (.cons rfl (.cons rfl (.cons rfl (.cons rfl .nil))))) (fun _ h => h.sub (.cons .head (.cons (.tail (.tail .head)) .nil)))
    · by_cases hlt1 : i < ks.length
      · (refine hc_seq ?_; refine hc_seq ?_; refine hc_lex ?_; refine hx_plain rfl ?_; refine h_move rfl rfl rfl rfl ?_; refine hx_plain rfl ?_; refine h_move rfl rfl rfl rfl ?_; refine hx_plain rfl ?_; refine h_len_slice rfl rfl rfl UC.out rfl rfl rfl ?_; refine hx_plain rfl ?_; refine h_cmp rfl rfl rfl rfl rfl rfl ?_; refine hx_plain rfl ?_; refine h_move rfl rfl rfl rfl ?_; refine hx_gT rfl rfl rfl (by omega) ?_; refine hx_yes rfl rfl rfl ?_; refine h_move rfl rfl rfl rfl ?_; refine hx_yes rfl rfl rfl ?_; refine h_cmp rfl rfl rfl rfl rfl rfl ?_; refine hx_plain rfl ?_; refine h_pickT rfl rfl rfl rfl rfl ?_; refine hx_nil ?_; refine hq_then ?_; refine hc_condDF rfl (by omega) ?_; refine hc_exit ?_; refine hq_exit_then ?_; refine hq_exit_then ?_)
        exact hq_cut () trivial .nil (fun _ h => h.emp)
      · (refine hc_seq ?_; refine hc_seq ?_; refine hc_lex ?_; refine hx_plain rfl ?_; refine h_move rfl rfl rfl rfl ?_; refine hx_plain rfl ?_; refine h_move rfl rfl rfl rfl ?_; refine hx_plain rfl ?_; refine h_len_slice rfl rfl rfl UC.out rfl rfl rfl ?_; refine hx_plain rfl ?_; refine h_cmp rfl rfl rfl rfl rfl rfl ?_; refine hx_plain rfl ?_; refine h_move rfl rfl rfl rfl ?_; refine hx_gF rfl rfl rfl (by omega) ?_; refine hx_skip rfl rfl rfl rfl rfl rfl ?_; refine hx_skip rfl rfl rfl rfl rfl rfl ?_; refine hx_plain rfl ?_; refine h_pickF rfl rfl rfl rfl rfl ?_; refine hx_nil ?_; refine hq_then ?_; refine hc_condF rfl ?_; refine hc_exit ?_; refine hq_exit_then ?_; refine hq_exit_then ?_)
        exact hq_cut () trivial .nil (fun _ h => h.emp)
  · rintro ⟨⟩ _
    (refine hq_exit_block ?_; refine hq_then ?_; refine hc_seq ?_; refine hc_lex ?_; refine hx_plain rfl ?_; refine h_assign rfl rfl rfl rfl ?_; refine hx_nil ?_; refine hq_then ?_; refine hc_ret ?_)
    exact hq_ret1 (.inr rfl) rfl rfl ⟨rfl, rfl⟩ (fun _ h => h)
end Go.Proofs.YtjnnlfeohbidhaaDoor
