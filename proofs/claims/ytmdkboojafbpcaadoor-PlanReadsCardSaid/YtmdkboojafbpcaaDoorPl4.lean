import Derived.Test.YtmdkboojafbpcaaDoorPl3
namespace Go.Proofs.YtmdkboojafbpcaaDoor
open Go Go.Proofs
set_option maxRecDepth 4000

/-- A superblock up to its sum. -/
def hdN (s : Shp) (i : Nat) : List Int := [65, 78, 88, 83] ++ (s.l.take i).flatMap (fun x => dg (IntKind.u64.wrap x) 4)
def hdR (s : Shp) : List Int := hdN s 8
def superR (s : Shp) : List Int := hdR s ++ dg (sumR off0 (hdR s)) 8 ++ List.replicate 468 0
def superB (s : Shp) : List Int := if (planR s).2 = 0 then superR s else []
theorem hdN_len (s : Shp) {i : Nat} (h : i ≤ 8) : (hdN s i).length = 4 + 4 * i := by
  unfold hdN
  rw [List.length_append, List.length_flatMap]
  have : (s.l.take i).length = i := by rw [List.length_take]; show min i 8 = i; omega
  have key : ∀ l : List Int, (l.map (fun x => (dg (IntKind.u64.wrap x) 4).length)).sum = 4 * l.length := by
    intro l
    induction l with
    | nil => rfl
    | cons a l ih => rw [List.map_cons, List.sum_cons, ih, dg_len, List.length_cons]; omega
  rw [key, this]
  rfl
theorem hdN_succ (s : Shp) {i : Nat} (h : i < s.l.length) : hdN s (i + 1) = hdN s i ++ dg (IntKind.u64.wrap s.l[i]) 4 := by
  unfold hdN
  rw [take_succ1 h, List.flatMap_append, List.append_assoc]
  simp
theorem hdR_len (s : Shp) : (hdR s).length = 36 := hdN_len s (i := 8) (by decide)
theorem superR_len (s : Shp) : (superR s).length = 512 := by
  unfold superR
  rw [List.length_append, List.length_append, hdR_len, dg_len, List.length_replicate]

set_option maxHeartbeats 8000000 in
theorem super_spec (ob : Obj) (s : Shp) : Spec Tryd.prog 18 [s.v] [Bnd ob] (fun v M => ∃ u, v = .tuple #[u, .int .i64 (planR s).2] ∧ M = [RowV byteE 5 u (superB s), Bnd ob]) := by
  refine spec_of Tryd.func18 rfl rfl (Nat.le_of_ble_eq_true rfl) (fun w F => ?_)
  obtain ⟨pl, hpl⟩ : ∃ pl, planR s = pl := ⟨_, rfl⟩
  obtain ⟨ly, er⟩ := pl
  (refine hc_seq ?_; refine hc_lex ?_; refine hx_plain rfl ?_; (refine h_box rfl rfl rfl rfl rfl rfl (fun _ => ?_)); refine hx_plain rfl ?_; refine h_assign rfl rfl rfl rfl ?_; refine hx_plain rfl ?_; refine h_assign rfl rfl rfl rfl ?_; refine hx_nil ?_; refine hq_then ?_; refine hc_seq ?_; refine hc_seq ?_; refine hc_lex ?_; refine hx_plain rfl ?_; refine h_loadP rfl rfl UC.out rfl IC.size .head rfl rfl rfl rfl ?_; refine hx_plain rfl ?_)
  refine h_call rfl rfl rfl rfl rfl rfl rfl rfl EC.out (.cons (.tail .head) .nil) (plan_spec ob s) ?_
  rintro v M ⟨rfl, rfl⟩
  rw [hpl]
  dsimp only
  by_cases he : er = 0
  · subst he
    have hsb : superB s = superR s := by unfold superB; rw [hpl]; rfl
    rw [hsb]
    (refine hx_plain rfl ?_; refine h_move rfl rfl rfl rfl ?_; refine hx_plain rfl ?_; refine h_extract rfl rfl rfl rfl rfl ?_; refine hx_plain rfl ?_; refine h_extract rfl rfl rfl rfl rfl ?_; refine hx_plain rfl ?_; (refine h_alloc rfl rfl IC.zero rfl rfl rfl (fun _ => ?_)); refine hx_plain rfl ?_; refine h_storeAll rfl rfl rfl rfl rfl rfl IC.size .head rfl rfl rfl (List.all_eq_true.1 rfl) ?_; refine hx_plain rfl ?_; refine h_assign rfl rfl rfl rfl ?_; refine hx_nil ?_; refine hq_then ?_; refine hc_seq ?_; refine hc_lex ?_; refine hx_plain rfl ?_; refine h_move rfl rfl rfl rfl ?_; refine hx_plain rfl ?_; refine h_cmp rfl rfl rfl rfl rfl rfl ?_; refine hx_nil ?_; refine hq_then ?_; refine hc_condF rfl ?_; refine hc_skip ?_; refine hq_then ?_; refine hc_seq ?_; refine hc_lex ?_; refine hx_plain rfl ?_; (refine h_buildSliceB rfl rfl rfl UC.out IC.size IC.zero rfl rfl rfl (by omega) rfl rfl (fun _ => ?_)); refine hx_plain rfl ?_)
    refine h_convMark rfl rfl rfl rfl UC.out UC.out .head rfl rfl (fun fz => ?_)
    (refine hx_plain rfl ?_; refine h_assign rfl rfl rfl rfl ?_; refine hx_nil ?_; refine hq_then ?_; refine hc_seq ?_; refine hc_seq ?_; refine hc_lex ?_; refine hx_plain rfl ?_; refine h_loadP rfl rfl UC.out rfl IC.size (.tail (.tail (.tail .head))) rfl rfl rfl rfl ?_; refine hx_plain rfl ?_)
    rename_i bx bl bb
    refine h_callR rfl rfl rfl rfl rfl rfl EC.out ((numbers_spec s).reads _) ?_
    (refine hx_plain rfl ?_; refine h_move rfl rfl rfl rfl ?_; refine hx_nil ?_; refine hq_then ?_; refine hc_block ?_)
    refine hc_cut (id := 0) (Y := Value) (fun v => [(6, v)]) (fun v => [Holds byteE [(v, hdR s)], Bnd ob]) (fun _ => True) ?_ ?_
    · refine hc_loop (X := Nat × Value) (fun x => [(6, x.2), (21, s.v), (22, .int .i64 (x.1 : Int))]) (fun x => [Holds byteE [(x.2, hdN s x.1)], Bnd ob]) (fun x => x.1 ≤ 8) (fun x => 8 - x.1) (0, .slice (some ⟨bb, 0, none⟩) 4 4) (.cons rfl (.cons rfl (.cons rfl .nil))) (Nat.zero_le _) (fun _ h => ?_) ?_
      · exact (St.blk_holds [65, 78, 88, 83] h rfl (by decide) (flat_row byteE [65, 78, 88, 83])).sub (.cons .head (.cons (.tail .head) .nil))
      rintro ⟨i, v⟩ hi
      dsimp only at hi ⊢
      by_cases hlt : i < 8
      · have hl8 : i < s.l.length := hlt
        have hv : s.cs[((i : Nat) : Int).toNat * 1]? = some (.int .i64 s.l[i]) := by
          rw [Nat.mul_one]
          exact ints_get (List.getElem?_eq_getElem hl8)
        (refine hc_seq ?_; refine hc_lex ?_; refine hx_plain rfl ?_; refine h_cmp rfl rfl rfl rfl rfl rfl ?_; refine hx_nil ?_; refine hq_then ?_; refine hc_seq ?_; refine hc_condDT rfl (by omega) ?_; refine hc_skip ?_; refine hq_then ?_; refine hc_seq ?_; refine hc_block ?_; refine hc_seq ?_; refine hc_lex ?_; refine hx_plain rfl ?_)
        refine h_index rfl rfl rfl UC.out UC.out rfl IC.size (by omega) hv rfl rfl ?_
        (refine hx_plain rfl ?_; refine h_assign rfl rfl rfl rfl ?_; refine hx_nil ?_; refine hq_then ?_; refine hc_lex ?_; refine hx_plain rfl ?_; refine h_move rfl rfl rfl rfl ?_; refine hx_plain rfl ?_; refine h_move rfl rfl rfl rfl ?_; refine hx_plain rfl ?_)
        refine h_callW (post := fun u M => M = [RowV byteE 5 u (hdN s i ++ dg (IntKind.u64.wrap s.l[i]) 4)]) rfl rfl rfl rfl rfl rfl rfl rfl EC.out (fun w' h => put32_makes _ (h.rdHolds .head (.head _)) (by rw [hdN_len s hi]; omega)) ?_
        rintro u M rfl
        (refine hx_plain rfl ?_; refine h_assign rfl rfl rfl rfl ?_; refine hx_nil ?_; refine hq_norm_block ?_; refine hq_then ?_; refine hc_lex ?_; refine hx_plain rfl ?_; refine h_arithI rfl rfl rfl rfl (by omega) rfl rfl ?_; refine hx_plain rfl ?_; refine h_move rfl rfl rfl rfl ?_; refine hx_nil ?_)
        refine hq_round (i + 1, u) (by show 8 - (i + 1) < 8 - i; omega) (by show i + 1 ≤ 8; omega) (.cons rfl (.cons rfl (.cons rfl .nil))) (fun _ h => ?_)
        show St w F [Holds byteE [(u, hdN s (i + 1))], Bnd ob] _
        rw [hdN_succ s hl8]
        exact (h.rowV_holds).sub (.cons .head (.cons (.tail .head) .nil))
      · obtain rfl : i = 8 := by omega
        (refine hc_seq ?_; refine hc_lex ?_; refine hx_plain rfl ?_; refine h_cmp rfl rfl rfl rfl rfl rfl ?_; refine hx_nil ?_; refine hq_then ?_; refine hc_seq ?_; refine hc_condF rfl ?_; refine hc_exit ?_; refine hq_exit_then ?_; refine hq_exit_then ?_)
        exact hq_cut v trivial (.cons rfl .nil) (fun _ h => h)
    · rintro v _
      have hhl := hdR_len s
      (refine hq_exit_block ?_; refine hq_then ?_; refine hc_seq ?_; refine hc_lex ?_; refine hx_plain rfl ?_; refine h_move rfl rfl rfl rfl ?_; refine hx_plain rfl ?_; refine h_move rfl rfl rfl rfl ?_; refine hx_plain rfl ?_)
      refine h_callRd rfl rfl rfl rfl rfl rfl EC.out (fun w' h => sum_reads (h.rdHolds .head (.head _))) ?_
      (refine hx_plain rfl ?_)
      refine h_callW (post := fun u M => M = [RowV byteE 5 u (hdR s ++ dg (sumR off0 (hdR s)) 8)]) rfl rfl rfl rfl rfl rfl rfl rfl EC.out (fun w' h => putSum_makes _ (h.rdHolds .head (.head _)) (by omega)) ?_
      rintro u M rfl
      (refine hx_plain rfl ?_; refine h_assign rfl rfl rfl rfl ?_; refine hx_nil ?_; refine hq_then ?_; refine hc_seq ?_; refine hc_lex ?_; refine hx_plain rfl ?_)
      refine h_makeSlice byteE (T := 5) (l := 512) (c := 512) (0 : Int) rfl rfl rfl rfl UC.out IC.out rfl (Nat.le_refl _) (by unfold maxLen; omega) (by omega) rfl rfl (fun g => ?_)
      (refine hx_plain rfl ?_; refine h_assign rfl rfl rfl rfl ?_; refine hx_nil ?_; refine hq_then ?_; refine hc_seq ?_; refine hc_lex ?_; refine hx_plain rfl ?_; refine h_move rfl rfl rfl rfl ?_; refine hx_plain rfl ?_; refine h_move rfl rfl rfl rfl ?_; refine hx_plain rfl ?_)
      refine h_copy (xs := List.replicate 512 0) (ys := hdR s ++ dg (sumR off0 (hdR s)) 8) rfl rfl rfl .head rfl rfl UC.out IC.size (fun w' h => h.rdRowV (.tail .head)) rfl rfl ?_
      have e9 : (hdR s ++ dg (sumR off0 (hdR s)) 8).take (List.replicate 512 (0 : Int)).length ++ (List.replicate 512 (0 : Int)).drop (hdR s ++ dg (sumR off0 (hdR s)) 8).length = superR s := by
        have h44 : (hdR s ++ dg (sumR off0 (hdR s)) 8).length = 44 := by rw [List.length_append, hhl, dg_len]
        rw [List.length_replicate, List.take_of_length_le (by omega), h44]
        unfold superR
        congr 1
      rw [e9]
      (refine hx_nil ?_; refine hq_then ?_; refine hc_seq ?_; refine hc_lex ?_; refine hx_plain rfl ?_; refine h_move rfl rfl rfl rfl ?_; refine hx_plain rfl ?_; refine h_assign rfl rfl rfl rfl ?_; refine hx_plain rfl ?_; refine h_assign rfl rfl rfl rfl ?_; refine hx_nil ?_; refine hq_then ?_; refine hc_ret ?_)
      refine hq_R2 (.inr rfl) rfl (rv_tmp rfl) (rv_tmp rfl) ⟨_, rfl, rfl⟩ (fun _ h => ?_)
      have h2 := (h.sub (M := [Row byteE 5 g 512 (superR s), Bnd ob]) (.cons .head (.cons (.tail (.tail .head)) .nil))).rowV_mk
      rw [superR_len] at h2
      exact h2
  · have hsb : superB s = [] := by unfold superB; rw [hpl]; exact if_neg he
    rw [hsb]
    (refine hx_plain rfl ?_; refine h_move rfl rfl rfl rfl ?_; refine hx_plain rfl ?_; refine h_extract rfl rfl rfl rfl rfl ?_; refine hx_plain rfl ?_; refine h_extract rfl rfl rfl rfl rfl ?_; refine hx_plain rfl ?_; (refine h_alloc rfl rfl IC.zero rfl rfl rfl (fun _ => ?_)); refine hx_plain rfl ?_; refine h_storeAll rfl rfl rfl rfl rfl rfl IC.size .head rfl rfl rfl (List.all_eq_true.1 rfl) ?_; refine hx_plain rfl ?_; refine h_assign rfl rfl rfl rfl ?_; refine hx_nil ?_; refine hq_then ?_; refine hc_seq ?_; refine hc_lex ?_; refine hx_plain rfl ?_; refine h_move rfl rfl rfl rfl ?_; refine hx_plain rfl ?_; refine h_cmp rfl rfl rfl rfl rfl rfl ?_; refine hx_nil ?_; refine hq_then ?_; refine hc_condDT rfl (by omega) ?_; refine hc_seq ?_; refine hc_lex ?_; refine hx_plain rfl ?_; refine h_move rfl rfl rfl rfl ?_; refine hx_plain rfl ?_; refine h_assign rfl rfl rfl rfl ?_; refine hx_plain rfl ?_; refine h_assign rfl rfl rfl rfl ?_; refine hx_nil ?_; refine hq_then ?_; refine hc_ret ?_; refine hq_ret_then ?_)
    exact hq_R2 (.inr rfl) rfl (rv_tmp rfl) (rv_tmp rfl) ⟨_, rfl, rfl⟩ (fun _ h => (h.sub (.cons (.tail .head) .nil)).rowV_nil)
end Go.Proofs.YtmdkboojafbpcaaDoor
