import Derived.Test.YtbfmmgbfliebhaaN5
import Derived.Test.YtbfmmgbfliebhaaNLay
import Derived.Test.YtbfmmgbfliebhaaEngS
import Derived.Shelf.SlSortCmp.NoneTotal
import Derived.WalkKit
import Derived.ProofKit
namespace Go.Proofs.Ytbfmmgbfliebhaa
open Go Go.Proofs Go.Shelf Go.RowKit
set_option maxRecDepth 4000

instance : Inhabited QF := ⟨⟨⟨0, 0, []⟩, ⟨none, 0, 0⟩⟩⟩
def cmpQ (x y : QF) : Int := Go.Lib.compareInt x.f.no y.f.no
theorem ltOf_cmpQ (x y : QF) : ltOf cmpQ x y = decide (x.f.no < y.f.no) := by
  unfold ltOf cmpQ Go.Lib.compareInt
  by_cases h1 : x.f.no < y.f.no
  · simp [h1]
  · by_cases h2 : y.f.no < x.f.no <;> simp [h1, h2]
theorem swoQ : Go.Sort.SWO (ltOf cmpQ) where
  irrefl x := by rw [ltOf_cmpQ]; simp
  trans x y z h1 h2 := by rw [ltOf_cmpQ] at *; simp at *; omega
  ntrans x y z h1 h2 := by rw [ltOf_cmpQ] at *; simp at *; omega
set_option maxHeartbeats 1000000 in
/-- The comparing function: two blocks are laid. -/
theorem under1 (n1 t1 n2 t2 : Int) (s1 s2 : Value) (W : World) : Calls Try.prog 35 #[.agg #[.int .i64 n1, .int .i64 t1, s1], .agg #[.int .i64 n2, .int .i64 t2, s2]] W fun e w' => e = .returned (.int .i64 (Go.Lib.compareInt n1 n2)) ∧ ∃ q os', w' = Go.Sort.grow (W.drewN q) os' := by
  have hcon := fun W' => AnyG.cmp_Compare_int cmpInt n1 n2 W'
  change ∀ W', Calls Try.prog 36 _ _ _ at hcon
  generalize Go.Lib.compareInt n1 n2 = r at hcon ⊢
  go_enter Try.func35, Try.ntmps35
  go_wp2_with (go_at_call 36; refine (hcon _).mono ?_; rintro e w' ⟨rfl, rfl⟩)
  go_ret
  exact ⟨rfl, 0, _, by rw [Go.Sort.alloc_eq_grow, Go.Sort.alloc_eq_grow, Go.Sort.grow_grow]; rfl⟩
theorem sort_row {g cap : Nat} {xs : List QF} (hsz : xs.length < 4611686018427387904) :
    Spec Try.prog 34 [.slice (some ⟨g, 0, none⟩) xs.length cap, .func (.func 35) #[] #[]] [Row qfE 52 g cap xs] (fun u M => u = .tuple #[] ∧ ∃ xs' : List QF, xs'.Perm xs ∧ xs'.Pairwise (fun a b => ltOf cmpQ b a = false) ∧ xs'.length = xs.length ∧ M = [Row qfE 52 g cap xs']) :=
  sortK_spec sortFl qfE 52 Try.isAgg52 Try.sizeOf52 cmpQ swoQ 35 EC.out (fun x y W => under1 _ _ _ _ _ _ W) hsz
theorem sort_spec {v : Value} {xs : List QF} (hsz : xs.length < 4611686018427387904) :
    Spec Try.prog 34 [v, .func (.func 35) #[] #[]] [RowV qfE 52 v xs] (fun u M => u = .tuple #[] ∧ ∃ xs' : List QF, xs'.Perm xs ∧ xs'.Pairwise (fun a b => ltOf cmpQ b a = false) ∧ M = [RowV qfE 52 v xs']) := fun w F hs => by
  rcases Star.rowV.1 hs with ⟨rfl, rfl, hs2⟩ | ⟨g, cap, rfl, hs2⟩
  · refine (AnyF.slices_SortFunc_none sortFl none 0 _ w).mono ?_
    rintro e w' ⟨rfl, rfl⟩
    exact ⟨_, [RowV qfE 52 (.slice none 0 0) []], rfl, ⟨rfl, [], List.Perm.refl _, List.Pairwise.nil, rfl⟩, St.start (Star.rowV.2 (.inl ⟨rfl, rfl, hs2⟩))⟩
  · refine (sort_row (g := g) (cap := cap) hsz w F hs2).mono ?_
    rintro e w' ⟨u, M, rfl, ⟨rfl, xs', hp, hs', hl, rfl⟩, hst⟩
    refine ⟨_, [RowV qfE 52 _ xs'], rfl, ⟨rfl, xs', hp, hs', rfl⟩, ?_⟩
    rw [← hl]
    exact hst.rowV_mk
/-- A list of flights and their data, all memory of one's own. -/
def FlO (v : Value) (l : List Fl) : Asn := Ex fun qs : List QF => All [Fact (qs.map (·.f) = l), RowV qfE 52 v qs, netR qs]
theorem FlO_open {v : Value} {l : List Fl} (w w0 : World) (F0 : Nat → Prop) (R : List Asn) (h : St w0 F0 (FlO v l :: R) w) : ∃ qs : List QF, qs.map (·.f) = l ∧ St w0 F0 ([RowV qfE 52 v qs, netR qs] ++ R) w := by
  obtain ⟨x, hx⟩ := St.ex.1 h
  have h2 := St.all.1 hx
  obtain ⟨hl, h3⟩ := St.fact.1 h2
  exact ⟨x, hl, h3⟩
theorem FlO_shut {v : Value} {l : List Fl} {qs : List QF} {w w0 : World} {F0 : Nat → Prop} {R : List Asn} (hl : qs.map (·.f) = l) (h : St w0 F0 (RowV qfE 52 v qs :: netR qs :: R) w) : St w0 F0 (FlO v l :: R) w :=
  St.ex.2 ⟨qs, St.all.2 (St.fact.2 ⟨hl, h⟩)⟩
theorem FlO_nil {w w0 : World} {F0 : Nat → Prop} {R : List Asn} (h : St w0 F0 R w) : St w0 F0 (FlO (.slice none 0 0) [] :: R) w :=
  FlO_shut (qs := []) rfl (St.rowV_nil (show St w0 F0 (All [] :: R) w from St.all.2 h))
theorem rows_mem {qs : List QF} {q : QF} (h : q ∈ qs) {w w0 : World} {F0 : Nat → Prop} {R : List Asn} (hs : St w0 F0 (netR qs :: R) w) : Rd byteE w q.sl.v q.f.data := by
  obtain ⟨k, hk⟩ := List.mem_iff_getElem?.1 h
  exact (rows_erase hk hs).rdRowV .head
/-- What such a list reads as. -/
theorem St.rdFlO {v : Value} {l : List Fl} {w w0 : World} {F0 : Nat → Prop} {L L' : List Asn} (h : St w0 F0 L w) (hp : Pull L (FlO v l) L') : RdF w v l := by
  obtain ⟨qs, hl, h2⟩ := FlO_open w w0 F0 L' (h.pull hp)
  exact ⟨qs, hl, h2.rdRowV .head, fun q hq => rows_mem hq (h2.perm (List.Perm.swap _ _ _))⟩
/-- Two lists that rise and hold the same are one. -/
theorem rise_perm {l m : List Fl} (hp : l.Perm m) (h1 : (l.map (·.no)).Pairwise (· ≤ ·)) (h2 : (m.map (·.no)).Pairwise (· < ·)) : l = m := by
  have hn : (m.map (·.no)).Nodup := h2.imp (fun h e => by omega)
  have hn1 : (l.map (·.no)).Nodup := (hp.map (·.no)).symm.nodup hn
  have h3 : (l.map (·.no)).Pairwise (· < ·) := by
    have := h1.and hn1
    exact this.imp (fun ⟨a, b⟩ => by omega)
  clear h1
  induction l generalizing m with
  | nil => exact (List.nil_perm.1 hp).symm
  | cons a l ih =>
    cases m with
    | nil => exact absurd hp (by simp)
    | cons b m =>
      rw [List.map_cons, List.pairwise_cons] at h2 h3
      have hab : a = b := by
        have ha : a ∈ b :: m := hp.mem_iff.1 List.mem_cons_self
        have hb : b ∈ a :: l := hp.mem_iff.2 List.mem_cons_self
        rcases List.mem_cons.1 ha with e | ha
        · exact e
        rcases List.mem_cons.1 hb with e | hb
        · exact e.symm
        have := h2.1 _ (List.mem_map_of_mem ha)
        have := h3.1 _ (List.mem_map_of_mem hb)
        omega
      subst hab
      rw [ih ((List.perm_cons a).1 hp) h2.2 (by rw [List.map_cons, List.nodup_cons] at hn; exact hn.2) (by rw [List.map_cons, List.nodup_cons] at hn1; exact hn1.2) h3.2]
set_option maxHeartbeats 2000000 in
/-- Under. -/
theorem under_spec {p : Nat} {s : NS} (hok : s.Ok) (hd : ∀ f ∈ s.l, f.data.length ≤ 140737488355200) :
    Spec Try.prog 20 [.pointer (some ⟨p, 0, none⟩)] [NetO p s] (fun u M => M = [FlO u s.l, NetO p s]) := by
  refine spec_of Try.func20 rfl rfl (Nat.le_of_ble_eq_true rfl) (fun w F => ?_)
  refine hc_openP .head NetO_open ?_
  rintro ⟨g, ks⟩ hl
  dsimp only at hl ⊢
  have hkl : ks.length ≤ 4096 := by
    have := hok.few
    rw [← hl, List.length_map] at this
    exact this
  (refine hc_seq ?_; refine hc_lex ?_; refine hx_plain rfl ?_; refine h_assign rfl rfl rfl rfl ?_; refine hx_nil ?_; refine hq_then ?_; refine hc_seq ?_; refine hc_lex ?_; refine hx_plain rfl ?_; refine h_assign rfl rfl rfl rfl ?_; refine hx_nil ?_; refine hq_then ?_; refine hc_seq ?_; refine hc_seq ?_; refine hc_lex ?_; refine hx_plain rfl ?_; refine h_move rfl rfl rfl rfl ?_; refine hx_plain rfl ?_; refine h_nilCheck rfl rfl rfl rfl ?_; refine hx_plain rfl ?_; refine h_fieldAddr0 rfl rfl FC.out rfl rfl ?_; refine hx_plain rfl ?_; refine h_load rfl rfl UC.out rfl .head rfl rfl rfl ?_; refine hx_plain rfl ?_)
  refine h_range (KO := iK) rfl rfl rfl (.tail .head) rfl UC.out rfl rfl (fun r => ?_)
  (refine hx_nil ?_; refine hq_then ?_; refine hc_block ?_)
  refine hc_cut (id := 0) (Y := List QF × Value) (fun y => [(3, y.2)]) (fun y => [RowV qfE 52 y.2 y.1, netR y.1, netB p g s.given, netM g ks, netR ks]) (fun y => (y.1.map (·.f)).Perm (ks.map (·.f))) ?_ ?_
  · refine hc_loop (X := List QF × List QF × Value × Option (Int × Value)) (fun x => [(0, .pointer (some ⟨p, 0, none⟩)), (3, x.2.2.1), (10, .pointer (some ⟨r, 0, none⟩))]) (fun x => [IterA iK g r (ks.map QF.ent) (x.1.map QF.ent) x.2.2.2, RowV qfE 52 x.2.2.1 x.2.1, netR x.2.1, netB p g s.given, netR ks])
      (fun x => (x.2.1.map (·.f) ++ x.1.map (·.f)).Perm (ks.map (·.f)) ∧ ∀ q ∈ x.1, q ∈ ks) (fun x => x.1.length) (ks, [], .slice none 0 0, none) (.cons rfl (.cons rfl (.cons rfl .nil))) ⟨List.Perm.refl _, fun _ h => h⟩ (fun w' h => ?_) ?_
    · have h2 : St w F (netR [] :: IterA iK g r (ks.map QF.ent) (ks.map QF.ent) none :: netB p g s.given :: [netR ks]) w' := St.all.2 h
      exact h2.rowV_nil.pulls (.cons (.tail (.tail .head)) (.cons .head (.cons .head (.cons .head (.cons .head .nil)))))
    rintro ⟨rest, out, v, last⟩ ⟨hp, hm⟩
    dsimp only at hp hm ⊢
    have hol : out.length + rest.length = ks.length := by
      have := hp.length_eq
      simpa using this
    (refine hc_seq ?_; refine hc_lex ?_; refine hx_plain rfl ?_)
    refine h_next (KO := iK) rfl rfl rfl .head rfl rfl rfl (fun h0 => ?_) (fun j a v' hj => ?_)
    · have : rest = [] := List.map_eq_nil_iff.1 h0
      subst this
      (refine hx_plain rfl ?_; refine h_extract rfl rfl rfl rfl rfl ?_; refine hx_nil ?_; refine hq_then ?_; refine hc_seq ?_; refine hc_condF rfl ?_; refine hc_exit ?_; refine hq_exit_then ?_; refine hq_exit_then ?_)
      refine hq_cut (out, v) (by simpa using hp) (.cons rfl .nil) (fun w' h => ?_)
      exact (IterA.map h).pulls (.cons (.tail .head) (.cons (.tail .head) (.cons (.tail .head) (.cons .head (.cons .head .nil)))))
    · rw [List.getElem?_map] at hj
      cases hq : rest[j]? with
      | none => rw [hq] at hj; cases hj
      | some q =>
      rw [hq] at hj
      injection hj with hj
      injection hj with e1 e2
      subst e1 e2
      rw [← eraseIdx_map']
      have hqm : q ∈ rest := List.mem_iff_getElem?.2 ⟨j, hq⟩
      have hqk := hm q hqm
      have hqd : q.f.data.length ≤ 140737488355200 := hd _ (by rw [← hl]; exact List.mem_map_of_mem hqk)
      have hrl : 0 < rest.length := List.length_pos_of_mem hqm
      (refine hx_plain rfl ?_; refine h_extract rfl rfl rfl rfl rfl ?_; refine hx_nil ?_; refine hq_then ?_; refine hc_seq ?_; refine hc_condT rfl ?_; refine hc_skip ?_; refine hq_then ?_; refine hc_block ?_; refine hc_seq ?_; refine hc_lex ?_; refine hx_plain rfl ?_)
      refine h_entry (KO := iK) rfl rfl .head rfl rfl rfl ?_
      (refine hx_plain rfl ?_; refine h_extract rfl rfl rfl rfl rfl ?_; refine hx_plain rfl ?_; refine h_extract rfl rfl rfl rfl rfl ?_; refine hx_plain rfl ?_; (refine h_alloc rfl rfl IC.zero rfl rfl rfl (fun _ => ?_)); refine hx_plain rfl ?_; refine h_assign rfl rfl rfl rfl ?_; refine hx_plain rfl ?_; refine h_store rfl rfl rfl rfl rfl rfl IC.size .head rfl rfl (Nat.le_of_ble_eq_true rfl) (List.all_eq_true.1 rfl) ?_; refine hx_nil ?_; refine hq_then ?_)
      refine hc_drawO [0, 1, 2, 3, 4, 5, 6, 7, 8, 9, 10] (fun i => Nat.beq i 6) (by kernel_rfl) (by kernel_rfl) rfl ?_
      (refine hx_plain rfl ?_; refine h_move rfl rfl rfl rfl ?_; refine hx_plain rfl ?_; refine h_move rfl rfl rfl rfl ?_; refine hx_plain rfl ?_; refine h_fieldAddr0 rfl rfl FC.out rfl rfl ?_; refine hx_plain rfl ?_; refine h_load rfl rfl UC.out rfl .head rfl rfl rfl ?_; refine hx_plain rfl ?_; refine h_fieldAddr0 rfl rfl FC.out rfl rfl ?_; refine hx_plain rfl ?_; refine h_load rfl rfl UC.out rfl .head rfl rfl rfl ?_; refine hx_plain rfl ?_)
      refine h_callWk (post := fun u M => ∃ s : SlV, u = s.v ∧ M = [RowV byteE 5 s.v q.f.data]) rfl rfl rfl rfl rfl rfl rfl EC.out (fun w' h => (clone_makes (rows_mem hqk (h.pull (by first | exact .head | exact (.tail .head) | exact (.tail (.tail .head)) | exact (.tail (.tail (.tail .head))) | exact (.tail (.tail (.tail (.tail .head)))) | exact (.tail (.tail (.tail (.tail (.tail .head))))) | exact (.tail (.tail (.tail (.tail (.tail (.tail .head)))))) | exact (.tail (.tail (.tail (.tail (.tail (.tail (.tail .head))))))) | exact (.tail (.tail (.tail (.tail (.tail (.tail (.tail (.tail .head))))))))))) hqd).slV) ?_
      rintro u M ⟨sl, rfl, rfl⟩
      (refine hx_plain rfl ?_; refine h_build rfl inferInstance rfl rfl rfl rfl ?_; refine hx_plain rfl ?_; (refine h_buildSlice rfl rfl rfl UC.out IC.size IC.zero rfl rfl (by intro v hv; simp at hv; first | (subst hv; rfl) | (rcases hv with rfl | rfl <;> rfl) | (rcases hv with rfl | rfl | rfl <;> rfl)) (by omega) rfl rfl (fun _ => ?_)); refine hx_plain rfl ?_)
      refine h_append (m := 1) (E := qfE) (T := 52) (xs := out) (ys := [⟨q.f, sl⟩]) rfl rfl rfl rfl rfl UC.out IC.out rfl (.cons (.tail (.tail (.tail (.tail .head)))) (.cons .head .nil)) rfl (one_row qfE _) (by unfold maxLen; omega) (by omega) rfl rfl (fun v' _ => ?_)
      (refine hx_plain rfl ?_; refine h_assign rfl rfl rfl rfl ?_; refine hx_nil ?_; refine hq_norm_block ?_)
      refine hq_round (rest.eraseIdx j, out ++ [⟨q.f, sl⟩], v', some q.ent) (by show (rest.eraseIdx j).length < rest.length; rw [List.length_eraseIdx_of_lt (List.getElem?_eq_some_iff.1 hq).1]; omega) ⟨?_, fun q' hq' => hm q' (List.mem_of_mem_eraseIdx hq')⟩ (.cons rfl (.cons rfl (.cons rfl .nil))) (fun w' h => ?_)
      · dsimp only
        rw [List.map_append, List.append_assoc]
        refine List.Perm.trans ?_ hp
        have := ((shl_erase hq).map (fun x : QF => x.f)).symm
        exact List.Perm.append_left _ this
      · have h1 : St w F (netR out :: QF.row ⟨q.f, sl⟩ :: IterA iK g r (ks.map QF.ent) ((rest.eraseIdx j).map QF.ent) (some q.ent) :: RowV qfE 52 v' (out ++ [⟨q.f, sl⟩]) :: netB p g s.given :: netR ks :: []) w' := h.sub (.cons (.tail (.tail (.tail (.tail (.tail .head))))) (.cons (.tail (.tail .head)) (.cons (.tail (.tail (.tail .head))) (.cons .head (.cons (.tail (.tail .head)) (.cons (.tail (.tail .head)) .nil))))))
        have h2 := shl_snoc h1
        have h3 : St w F (netR (out ++ [⟨q.f, sl⟩]) :: IterA iK g r (ks.map QF.ent) ((rest.eraseIdx j).map QF.ent) (some q.ent) :: RowV qfE 52 v' (out ++ [⟨q.f, sl⟩]) :: netB p g s.given :: netR ks :: []) w' := by
          unfold netR
          rw [List.map_append (l₁ := out)]
          exact h2
        exact h3.pulls (.cons (.tail .head) (.cons (.tail .head) (.cons .head (.cons .head (.cons .head .nil)))))
  · rintro ⟨out, v⟩ hp
    dsimp only at hp ⊢
    have hol : out.length = ks.length := by
      have := hp.length_eq
      simpa using this
    (refine hq_exit_block ?_; refine hq_then ?_; refine hc_seq ?_; refine hc_lex ?_; refine hx_plain rfl ?_; refine h_move rfl rfl rfl rfl ?_; refine hx_plain rfl ?_)
    refine h_call rfl rfl rfl rfl rfl rfl rfl rfl EC.out (.cons .head .nil) (sort_spec (v := v) (xs := out) (by omega)) ?_
    rintro u M ⟨rfl, xs', hpx, hsx, rfl⟩
    (refine hx_nil ?_; refine hq_then ?_; refine hc_seq ?_; refine hc_lex ?_; refine hx_plain rfl ?_; refine h_move rfl rfl rfl rfl ?_; refine hx_plain rfl ?_; refine h_assign rfl rfl rfl rfl ?_; refine hx_nil ?_; refine hq_then ?_; refine hc_ret ?_)
    refine hq_ret1 (.inr rfl) rfl rfl rfl (fun w' h => ?_)
    have hx : xs'.map (·.f) = s.l := by
      refine rise_perm ?_ ?_ hok.rise
      · rw [← hl]
        exact (hpx.map (·.f)).trans hp
      · rw [List.map_map, List.pairwise_map]
        exact hsx.imp (fun {a b} h => by
          rw [ltOf_cmpQ] at h
          have : ¬ b.f.no < a.f.no := of_decide_eq_false h
          show a.f.no ≤ b.f.no
          omega)
    have h1 : St w F (netR out :: RowV qfE 52 v xs' :: netB p g s.given :: netM g ks :: netR ks :: []) w' := h.pulls (.cons (.tail .head) (.cons .head (.cons .head (.cons .head (.cons .head .nil)))))
    have h2 : St w F (netR xs' :: RowV qfE 52 v xs' :: netB p g s.given :: netM g ks :: netR ks :: []) w' := shl_perm (hpx.symm.map QF.row) h1
    have h3 := FlO_shut hx (h2.perm (List.Perm.swap _ _ _))
    exact (NetO_shut hl (h3.pulls (.cons (.tail .head) (.cons (.tail .head) (.cons (.tail .head) (.cons .head .nil)))))).perm (List.Perm.swap _ _ _)
end Go.Proofs.Ytbfmmgbfliebhaa
