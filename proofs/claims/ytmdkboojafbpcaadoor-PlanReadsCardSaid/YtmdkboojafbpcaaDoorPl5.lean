import Derived.Test.YtmdkboojafbpcaaDoorPl4
import Derived.Test.YtmdkboojafbpcaaDoorNm1
import Derived.Test.YtmdkboojafbpcaaDoorEngZ
namespace Go.Proofs.YtmdkboojafbpcaaDoor
open Go Go.Proofs
set_option maxRecDepth 4000

theorem plan_makes {w : World} (hw : CelAt 0 bndL w) (s : Shp) : Calls Tryd.prog 14 [s.v].toArray w (fun en w' => en = .returned (.tuple #[(planR s).1.v, .int .i64 (planR s).2]) ∧ But w w' nowhere) :=
  Makes.reads (Spec.celMakes (fun ob => (plan_spec ob s).conv (fun v M ⟨h1, h2⟩ => ⟨_, ⟨[], rfl, h1, rfl⟩, fun _ _ _ h => by rw [h2] at h; exact h⟩)) hw)
theorem super_makes {w : World} (hw : CelAt 0 bndL w) (s : Shp) : Makes Tryd.prog 18 [s.v] w (fun v M => ∃ u, v = .tuple #[u, .int .i64 (planR s).2] ∧ M = [RowV byteE 5 u (superB s)]) :=
  Spec.celMakes (fun ob => (super_spec ob s).conv (fun v M ⟨u, h1, h2⟩ => ⟨[Bnd ob, RowV byteE 5 u (superB s)], ⟨_, rfl, u, h1, rfl⟩, fun _ _ _ h => by rw [h2] at h; exact h.perm (List.Perm.swap _ _ _)⟩)) hw

/-- The k-th number of a superblock. -/
def numX (bs : List Int) (k : Nat) : Int := IntKind.i64.wrap (numR (((bs.drop 4).drop (4 * k)).take 4))
def xs8 (bs : List Int) : List Int := (List.range 8).map (numX bs)
def rdShp (bs : List Int) : Shp := ⟨numX bs 0, numX bs 1, numX bs 2, numX bs 3, numX bs 4, numX bs 5, numX bs 6, numX bs 7⟩
def mg (bs : List Int) : Bool := (strOf (bs.take 4)).toList == (⟨#[65, 78, 88, 83]⟩ : ByteArray).toList
def readR (bs : List Int) : Shp × Int :=
  if bs.length = 512 ∧ mg bs = true then
    (if numR (((bs.drop 4).drop 32).take 8) = sumR off0 (bs.take 36) then
      (if ∀ x ∈ bs.drop 44, x = 0 then (if (planR (rdShp bs)).2 = 0 then (rdShp bs, 0) else (.z, (planR (rdShp bs)).2)) else (.z, 61))
    else (.z, 62))
  else (.z, 61)
theorem numX_le {bs : List Int} (hb : Byts bs) (k : Nat) : numX bs k ≤ 4294967295 := by
  have hb4 : Byts (((bs.drop 4).drop (4 * k)).take 4) := fun x hx => hb x (List.mem_of_mem_drop (List.mem_of_mem_drop (List.mem_of_mem_take hx)))
  have hl : (((bs.drop 4).drop (4 * k)).take 4).length ≤ 4 := by rw [List.length_take]; omega
  obtain ⟨h1, h2, h3⟩ := numR_eq hb4 (by omega)
  have h4 := pow256_le hl
  have h5 : (256 : Int) ^ 4 = 4294967296 := by decide
  unfold numX
  rw [h1, IntWalk.i64_in _ (by omega)]
  omega
set_option maxHeartbeats 8000000 in
theorem read_makes {bs : List Int} {w : World} {v : Value} (hw : CelAt 0 bndL w) (h1 : Rd byteE w v bs) (hb : Byts bs) :
    Makes Tryd.prog 22 [v] w (fun u M => u = .tuple #[(readR bs).1.v, .int .i64 (readR bs).2] ∧ M = []) := by
  have h0 := h1
  obtain ⟨a1, c1, rfl, l1, m1, k1⟩ := h1
  refine makes_of Tryd.func22 rfl rfl (Nat.le_of_ble_eq_true rfl) ?_
  by_cases hl : bs.length = 512
  · have hne : bs ≠ [] := by
      intro e
      rw [e] at hl
      cases hl
    obtain ⟨g1, o1, rfl, r1⟩ := k1.resolve_left hne
    rw [hl] at l1 h0
    rw [hl]
    clear k1
    (refine hc_seq ?_; refine hc_lex ?_; refine hx_plain rfl ?_; (refine h_alloc rfl rfl IC.zero rfl rfl rfl (fun _ => ?_)); refine hx_plain rfl ?_; refine h_assign rfl rfl rfl rfl ?_; refine hx_nil ?_; refine hq_then ?_; refine hc_seq ?_; refine hc_seq ?_; refine hc_lex ?_; refine hx_plain rfl ?_; refine h_move rfl rfl rfl rfl ?_; refine hx_plain rfl ?_; refine h_len_slice rfl rfl rfl UC.out rfl rfl rfl ?_; refine hx_plain rfl ?_; refine h_cmp rfl rfl rfl rfl rfl rfl ?_; refine hx_plain rfl ?_; refine h_move rfl rfl rfl rfl ?_; refine hx_yes rfl rfl rfl ?_; refine h_move rfl rfl rfl rfl ?_; refine hx_yes rfl rfl rfl ?_; refine h_sliceTo rfl rfl rfl UC.out IC.size (by omega) rfl rfl ?_; refine hx_yes rfl rfl rfl ?_)
    refine h_toString rfl rfl UC.out UC.out UC.out (fun w' h => (h.rd h0).takeN (n := 4) (by omega)) rfl rfl ?_
    (refine hx_yes rfl rfl rfl ?_; refine h_cmpS rfl rfl rfl rfl rfl rfl ?_; refine hx_plain rfl ?_; refine h_pickF rfl rfl rfl rfl rfl ?_; refine hx_nil ?_; refine hq_then ?_; refine hc_cond rfl (fun hc => ?_) (fun hc => ?_); refine hc_seq ?_; refine hc_lex ?_; refine hx_plain rfl ?_; refine h_build rfl inferInstance rfl rfl rfl rfl ?_; refine hx_plain rfl ?_; refine h_storeAll rfl rfl rfl rfl rfl rfl IC.size .head rfl rfl rfl (List.all_eq_true.1 rfl) ?_; refine hx_plain rfl ?_; refine h_assign rfl rfl rfl rfl ?_; refine hx_nil ?_; refine hq_then ?_; refine hc_ret ?_; refine hq_ret_then ?_; rotate_left; refine hc_skip ?_; refine hq_then ?_; refine hc_seq ?_; refine hc_lex ?_; refine hx_plain rfl ?_; refine h_move rfl rfl rfl rfl ?_; refine hx_plain rfl ?_; rotate_left)
    · have hr : readR bs = (.z, 61) := if_neg (fun h => by
        have h2 : mg bs = true := h.2
        unfold mg at h2
        rw [h2] at hc
        cases hc)
      rw [hr]
      exact hq_R2 (.inr rfl) rfl (rv_cell rfl .head UC.out rfl IC.size) (rv_tmp rfl) ⟨rfl, rfl⟩ (fun _ h => h.emp)
    have hmg : mg bs = true := by
      unfold mg
      cases hh : (strOf (bs.take 4)).toList == (⟨#[65, 78, 88, 83]⟩ : ByteArray).toList with
      | true => rfl
      | false => rw [hh] at hc; cases hc
    have hlr : (bs.drop 4).length = 508 := by rw [List.length_drop]; omega
    refine h_cutFrom 4 rfl rfl rfl UC.out IC.size (by omega) rfl rfl ?_
    (refine hx_plain rfl ?_)
    refine h_callW (post := fun u M => ∃ p, u = .pointer (some ⟨p, 0, none⟩) ∧ M = [RdrO p (bs.drop 4) 0 0 0]) rfl rfl rfl rfl rfl rfl rfl rfl EC.out (fun w' h => newReader_makes ((h.rd h0).dropN (i := 4) (by omega) hl.symm) (by omega)) ?_
    rintro u M ⟨p, rfl, rfl⟩
    (refine hx_plain rfl ?_; refine h_assign rfl rfl rfl rfl ?_; refine hx_nil ?_; refine hq_then ?_; refine hc_seq ?_; refine hc_lex ?_; refine hx_plain rfl ?_; (refine h_alloc rfl rfl IC.zero rfl rfl rfl (fun _ => ?_)); refine hx_nil ?_; refine hq_then ?_; refine hc_seq ?_; refine hc_seq ?_; refine hc_lex ?_; refine hx_plain rfl ?_; refine h_move rfl rfl rfl rfl ?_; refine hx_nil ?_; refine hq_then ?_; refine hc_block ?_)
    rename_i br bx
    have hx8 : (xs8 bs).length = 8 := rfl
    refine hc_cut (id := 0) (Y := Unit) (fun _ => [(0, .slice (some ⟨g1, o1, none⟩) 512 c1), (2, .pointer (some ⟨br, 0, none⟩)), (4, .pointer (some ⟨p, 0, none⟩)), (5, .pointer (some ⟨bx, 0, none⟩))]) (fun _ => [Blk bx (.cells (rdShp bs).cs 62), RdrO p (bs.drop 4) ((32 : Nat) : Int) ((32 : Nat) : Int) 0, Blk br (.cells Shp.z.cs 23)]) (fun _ => True) ?_ ?_
    · refine hc_loop (X := Nat) (fun i => [(0, .slice (some ⟨g1, o1, none⟩) 512 c1), (2, .pointer (some ⟨br, 0, none⟩)), (4, .pointer (some ⟨p, 0, none⟩)), (5, .pointer (some ⟨bx, 0, none⟩)), (25, .int .i64 (i : Int))]) (fun i => [Blk bx (.cells (ints (laid 0 (xs8 bs) i)) 62), RdrO p (bs.drop 4) ((4 * i : Nat) : Int) ((4 * i : Nat) : Int) 0, Blk br (.cells Shp.z.cs 23)]) (fun i => i ≤ 8) (fun i => 8 - i) 0 (.cons rfl (.cons rfl (.cons rfl (.cons rfl (.cons rfl .nil))))) (Nat.zero_le _) (fun _ h => h) ?_
      intro i hi
      by_cases hlt : i < 8
      · have hn : 4 * i + 4 ≤ (bs.drop 4).length := by omega
        (refine hc_seq ?_; refine hc_lex ?_; refine hx_plain rfl ?_; refine h_cmp rfl rfl rfl rfl rfl rfl ?_; refine hx_nil ?_; refine hq_then ?_; refine hc_seq ?_; refine hc_condDT rfl (by omega) ?_; refine hc_skip ?_; refine hq_then ?_; refine hc_seq ?_; refine hc_block ?_; refine hc_seq ?_; refine hc_lex ?_; refine hx_plain rfl ?_; refine h_move rfl rfl rfl rfl ?_; refine hx_plain rfl ?_; refine h_assign rfl rfl rfl rfl ?_; refine hx_nil ?_; refine hq_then ?_; refine hc_lex ?_; refine hx_plain rfl ?_; refine h_move rfl rfl rfl rfl ?_; refine hx_plain rfl ?_; refine h_move rfl rfl rfl rfl ?_; refine hx_plain rfl ?_)
        refine h_call rfl rfl rfl rfl rfl rfl rfl rfl EC.out (.cons (.tail .head) .nil) (u32_spec p (bs.drop 4) (4 * i) _ 4294967295 hn (by omega) (numX_le hb i)) ?_
        rintro v M ⟨rfl, rfl⟩
        (refine hx_plain rfl ?_)
        refine h_indexAddrA rfl rfl rfl UC.out IC.size (by omega) rfl rfl ?_
        refine hx_plain rfl ?_
        refine h_store (t := 3) rfl rfl rfl rfl rfl rfl IC.size (.tail .head) rfl rfl (by rw [ints_size, laid_len (by omega)]; show 0 + (i : Int).toNat * 1 + 1 ≤ 8; omega) (List.all_eq_true.1 rfl) ?_
        (refine hx_nil ?_; refine hq_norm_block ?_; refine hq_then ?_; refine hc_lex ?_; refine hx_plain rfl ?_; refine h_arithI rfl rfl rfl rfl (by omega) rfl rfl ?_; refine hx_plain rfl ?_; refine h_move rfl rfl rfl rfl ?_; refine hx_nil ?_)
        refine hq_round (i + 1) (by omega) (by omega) (.cons rfl (.cons rfl (.cons rfl (.cons rfl (.cons rfl .nil))))) (fun _ h => ?_)
        have e1 : setMany (ints (laid 0 (xs8 bs) i)) (0 + (i : Int).toNat * 1) [.int .i64 (numX bs i)] = ints (laid 0 (xs8 bs) (i + 1)) := by
          rw [setMany_one, ← laid_set (by rw [hx8]; exact hlt)]
          have : (xs8 bs)[i]'(by rw [hx8]; exact hlt) = numX bs i := by simp [xs8]
          rw [this]
          simp [ints, List.map_set]
        show St w nowhere [Blk bx (.cells (ints (laid 0 (xs8 bs) (i + 1))) 62), RdrO p (bs.drop 4) ((4 * i + 4 : Nat) : Int) ((4 * i + 4 : Nat) : Int) 0, Blk br (.cells Shp.z.cs 23)] _
        rw [← e1]
        exact h
      · obtain rfl : i = 8 := by omega
        (refine hc_seq ?_; refine hc_lex ?_; refine hx_plain rfl ?_; refine h_cmp rfl rfl rfl rfl rfl rfl ?_; refine hx_nil ?_; refine hq_then ?_; refine hc_seq ?_; refine hc_condF rfl ?_; refine hc_exit ?_; refine hq_exit_then ?_; refine hq_exit_then ?_)
        refine hq_cut () trivial (.cons rfl (.cons rfl (.cons rfl (.cons rfl .nil)))) (fun _ h => ?_)
        rw [laid_all hx8.symm] at h
        exact h
    · rintro ⟨⟩ _
      have hn : 32 + 8 ≤ (bs.drop 4).length := by omega
      (refine hq_exit_block ?_; refine hq_then ?_; refine hc_seq ?_; refine hc_seq ?_)
      refine hc_drawO [0, 2, 3, 1, 4, 5] (fun _ => false) (by kernel_rfl) (by kernel_rfl) rfl ?_
      (refine hx_plain rfl ?_; refine h_move rfl rfl rfl rfl ?_; refine hx_plain rfl ?_; refine h_move rfl rfl rfl rfl ?_; refine hx_plain rfl ?_; refine h_sliceTo rfl rfl rfl UC.out IC.size (by omega) rfl rfl ?_; refine hx_plain rfl ?_)
      refine h_call rfl rfl rfl rfl rfl rfl rfl rfl EC.out (.cons (.tail .head) .nil) (rsum_spec p (bs.drop 4) 32 _ hn (by omega)) ?_
      rintro v M ⟨rfl, rfl⟩
      (refine hx_plain rfl ?_)
      refine h_callRd rfl rfl rfl rfl rfl rfl EC.out (fun w' h => sum_reads ((h.rd h0).takeN (n := 36) (by omega))) ?_
      (refine hx_plain rfl ?_; refine h_cmp rfl rfl rfl rfl rfl rfl ?_; refine hx_nil ?_; refine hq_then ?_; refine hc_condD rfl (fun hc => ?_) (fun hc => ?_); refine hc_seq ?_; refine hc_lex ?_; refine hx_plain rfl ?_; refine h_build rfl inferInstance rfl rfl rfl rfl ?_; refine hx_plain rfl ?_; refine h_storeAll rfl rfl rfl rfl rfl rfl IC.size (.tail (.tail .head)) rfl rfl rfl (List.all_eq_true.1 rfl) ?_; refine hx_plain rfl ?_; refine h_assign rfl rfl rfl rfl ?_; refine hx_nil ?_; refine hq_then ?_; refine hc_ret ?_; refine hq_ret_then ?_; rotate_left; refine hc_skip ?_; refine hq_then ?_; refine hc_seq ?_; refine hc_seq ?_; refine hc_lex ?_; refine hx_plain rfl ?_; refine h_move rfl rfl rfl rfl ?_; refine hx_plain rfl ?_; rotate_left)
      · have hr : readR bs = (.z, 62) := by
          unfold readR
          rw [if_pos ⟨hl, hmg⟩, if_neg hc]
        rw [hr]
        exact hq_R2 (.inr rfl) rfl (rv_cell rfl .head UC.out rfl IC.size) (rv_tmp rfl) ⟨rfl, rfl⟩ (fun _ h => h.emp)
      have hs := Classical.not_not.1 hc
      clear hc
      have hz := h0.dropN (i := 44) (by omega) hl.symm
      have hzl : (bs.drop 44).length = 468 := by rw [List.length_drop]; omega
      refine h_cutFrom 44 rfl rfl rfl UC.out IC.size (by omega) rfl rfl ?_
      have hsz : byteE.sz = 1 := rfl
      rw [hsz] at hz
      obtain ⟨oz, hoz⟩ : ∃ oz, oz = (if c1 = 44 then o1 else o1 + 44 * 1) := ⟨_, rfl⟩
      rw [← hoz] at hz ⊢
      obtain ⟨az, cz, ez, _, _, kz⟩ := hz
      have hzn : bs.drop 44 ≠ [] := by
        intro e
        rw [e] at hzl
        cases hzl
      obtain ⟨gz, oz2, ez2, r2⟩ := kz.resolve_left hzn
      injection ez with ez3 ez4 ez5
      rw [ez2] at ez3
      injection ez3 with ez3
      injection ez3 with ez6 ez7
      subst ez6 ez7
      clear ez2 hoz kz
      have h468 : (512 : Nat) - 44 = 468 := rfl
      rw [h468]
      (refine hx_plain rfl ?_; refine h_len_slice rfl rfl rfl UC.out rfl rfl rfl ?_; refine hx_plain rfl ?_; refine h_move rfl rfl rfl rfl ?_; refine hx_nil ?_; refine hq_then ?_; refine hc_block ?_)
      refine hc_cut (id := 2) (Y := Unit) (fun _ => [(2, .pointer (some ⟨br, 0, none⟩)), (5, .pointer (some ⟨bx, 0, none⟩))]) (fun _ => [Blk bx (.cells (rdShp bs).cs 62), Blk br (.cells Shp.z.cs 23)]) (fun _ => ∀ x ∈ bs.drop 44, x = 0) ?_ ?_
      · refine hc_loop (X := Nat) (fun i => [(2, .pointer (some ⟨br, 0, none⟩)), (5, .pointer (some ⟨bx, 0, none⟩)), (41, .slice (some ⟨g1, oz, none⟩) 468 (c1 - 44)), (42, .int .i64 468), (43, .int .i64 (i : Int))]) (fun _ => [Blk bx (.cells (rdShp bs).cs 62), Blk br (.cells Shp.z.cs 23)]) (fun i => i ≤ 468 ∧ ∀ x ∈ (bs.drop 44).take i, x = 0) (fun i => 468 - i) 0 (.cons rfl (.cons rfl (.cons rfl (.cons rfl (.cons rfl .nil))))) ⟨Nat.zero_le _, by simp⟩ (fun _ h => h.sub (.cons (.tail .head) (.cons (.tail .head) .nil))) ?_
        rintro i ⟨hi, hzz⟩
        by_cases hlt : i < 468
        · have hlt2 : i < (bs.drop 44).length := by omega
          have e1 : (bs.drop 44)[((i : Nat) : Int).toNat]? = some (bs.drop 44)[i] := List.getElem?_eq_getElem hlt2
          (refine hc_seq ?_; refine hc_lex ?_; refine hx_plain rfl ?_; refine h_cmp rfl rfl rfl rfl rfl rfl ?_; refine hx_nil ?_; refine hq_then ?_; refine hc_seq ?_; refine hc_condDT rfl (by omega) ?_; refine hc_skip ?_; refine hq_then ?_; refine hc_seq ?_; refine hc_block ?_; refine hc_seq ?_; refine hc_lex ?_; refine hx_plain rfl ?_; refine h_indexAddr rfl rfl rfl UC.out IC.size (by omega) (by omega) rfl rfl ?_; refine hx_plain rfl ?_; refine h_rdLoad1 rfl r2 rfl UC.out rfl (by with_reducible assumption) rfl rfl rfl ?_; refine hx_plain rfl ?_; refine h_assign rfl rfl rfl rfl ?_; refine hx_nil ?_; refine hq_then ?_; refine hc_seq ?_; refine hc_lex ?_; refine hx_plain rfl ?_; refine h_move rfl rfl rfl rfl ?_; refine hx_plain rfl ?_; refine h_cmp rfl rfl rfl rfl rfl rfl ?_; refine hx_nil ?_; refine hq_then ?_; refine hc_condD rfl (fun hc => ?_) (fun hc => ?_); refine hc_seq ?_; refine hc_lex ?_; refine hx_plain rfl ?_; refine h_build rfl inferInstance rfl rfl rfl rfl ?_; refine hx_plain rfl ?_; refine h_storeAll rfl rfl rfl rfl rfl rfl IC.size (.tail .head) rfl rfl rfl (List.all_eq_true.1 rfl) ?_; refine hx_plain rfl ?_; refine h_assign rfl rfl rfl rfl ?_; refine hx_nil ?_; refine hq_then ?_; refine hc_ret ?_; refine hq_ret_block ?_; refine hq_ret_then ?_; refine hq_ret_then ?_; refine hq_cut_ret ?_; refine hq_ret_block ?_; refine hq_ret_then ?_; rotate_left; refine hc_skip ?_; refine hq_norm_block ?_; refine hq_then ?_; refine hc_lex ?_; refine hx_plain rfl ?_; refine h_arithI rfl rfl rfl rfl (by omega) rfl rfl ?_; refine hx_plain rfl ?_; refine h_move rfl rfl rfl rfl ?_; refine hx_nil ?_; rotate_left)
          · have hr : readR bs = (.z, 61) := by
              unfold readR
              rw [if_pos ⟨hl, hmg⟩, if_pos hs, if_neg (fun h => hc (h _ (List.getElem_mem hlt2)))]
            rw [hr]
            exact hq_R2 (.inr rfl) rfl (rv_cell rfl .head UC.out rfl IC.size) (rv_tmp rfl) ⟨rfl, rfl⟩ (fun _ h => h.emp)
          · refine hq_round (i + 1) (by omega) ⟨by omega, fun x hx => ?_⟩ (.cons rfl (.cons rfl (.cons rfl (.cons rfl (.cons rfl .nil))))) (fun _ h => h)
            rw [take_succ1 hlt2] at hx
            rcases List.mem_append.1 hx with h | h
            · exact hzz x h
            · rw [List.mem_singleton.1 h]
              exact Classical.not_not.1 hc
        · (refine hc_seq ?_; refine hc_lex ?_; refine hx_plain rfl ?_; refine h_cmp rfl rfl rfl rfl rfl rfl ?_; refine hx_nil ?_; refine hq_then ?_; refine hc_seq ?_; refine hc_condDF rfl (by omega) ?_; refine hc_exit ?_; refine hq_exit_then ?_; refine hq_exit_then ?_)
          refine hq_cut () ?_ (.cons rfl (.cons rfl .nil)) (fun _ h => h)
          rwa [List.take_of_length_le (by omega)] at hzz
      · rintro ⟨⟩ hzz
        have e7 : readR bs = if (planR (rdShp bs)).2 = 0 then (rdShp bs, 0) else (.z, (planR (rdShp bs)).2) := by
          unfold readR
          rw [if_pos ⟨hl, hmg⟩, if_pos hs, if_pos hzz]
        obtain ⟨sh, hsh⟩ : ∃ sh, rdShp bs = sh := ⟨_, rfl⟩
        rw [e7, hsh]
        obtain ⟨pl, hpl⟩ : ∃ pl, planR sh = pl := ⟨_, rfl⟩
        obtain ⟨ly, er⟩ := pl
        rw [hpl]
        dsimp only
        (refine hq_exit_block ?_; refine hq_then ?_; refine hc_seq ?_; refine hc_lex ?_; refine hx_plain rfl ?_; refine h_loadP rfl rfl UC.out rfl IC.size .head rfl rfl rfl rfl ?_; refine hx_plain rfl ?_)
        refine h_callR rfl rfl rfl rfl rfl rfl EC.out ((shaped_spec sh).reads _) ?_
        (refine hx_plain rfl ?_; (refine h_alloc rfl rfl IC.zero rfl rfl rfl (fun _ => ?_)); refine hx_plain rfl ?_; refine h_storeAll rfl rfl rfl rfl rfl rfl IC.size .head rfl rfl rfl (List.all_eq_true.1 rfl) ?_; refine hx_nil ?_; refine hq_then ?_; refine hc_seq ?_; refine hc_seq ?_; refine hc_lex ?_; refine hx_plain rfl ?_; refine h_loadP rfl rfl UC.out rfl IC.size .head rfl rfl rfl rfl ?_; refine hx_plain rfl ?_)
        refine h_callRd rfl rfl rfl rfl rfl rfl EC.out (fun w' h => plan_makes (h.celAt hw) sh) ?_
        rw [hpl]
        dsimp only
        by_cases her : er = 0
        · subst her
          rw [if_pos rfl]
          (refine hx_plain rfl ?_; refine h_move rfl rfl rfl rfl ?_; refine hx_plain rfl ?_; refine h_extract rfl rfl rfl rfl rfl ?_; refine hx_plain rfl ?_; refine h_extract rfl rfl rfl rfl rfl ?_; refine hx_plain rfl ?_; (refine h_alloc rfl rfl IC.zero rfl rfl rfl (fun _ => ?_)); refine hx_plain rfl ?_; refine h_storeAll rfl rfl rfl rfl rfl rfl IC.size .head rfl rfl rfl (List.all_eq_true.1 rfl) ?_; refine hx_plain rfl ?_; refine h_assign rfl rfl rfl rfl ?_; refine hx_nil ?_; refine hq_then ?_; refine hc_seq ?_; refine hc_lex ?_; refine hx_plain rfl ?_; refine h_move rfl rfl rfl rfl ?_; refine hx_plain rfl ?_; refine h_cmp rfl rfl rfl rfl rfl rfl ?_; refine hx_nil ?_; refine hq_then ?_; refine hc_condF rfl ?_; refine hc_skip ?_; refine hq_then ?_; refine hc_seq ?_; refine hc_lex ?_; refine hx_plain rfl ?_; refine h_loadP rfl rfl UC.out rfl IC.size (.tail .head) rfl rfl rfl rfl ?_; refine hx_plain rfl ?_; refine h_storeAll rfl rfl rfl rfl rfl rfl IC.size (.tail (.tail (.tail .head))) rfl rfl rfl (List.all_eq_true.1 rfl) ?_; refine hx_plain rfl ?_; refine h_assign rfl rfl rfl rfl ?_; refine hx_nil ?_; refine hq_then ?_; refine hc_ret ?_)
          exact hq_R2 (.inr rfl) rfl (rv_cell rfl .head UC.out rfl IC.size) (rv_tmp rfl) ⟨rfl, rfl⟩ (fun _ h => h.emp)
        · rw [if_neg her]
          (refine hx_plain rfl ?_; refine h_move rfl rfl rfl rfl ?_; refine hx_plain rfl ?_; refine h_extract rfl rfl rfl rfl rfl ?_; refine hx_plain rfl ?_; refine h_extract rfl rfl rfl rfl rfl ?_; refine hx_plain rfl ?_; (refine h_alloc rfl rfl IC.zero rfl rfl rfl (fun _ => ?_)); refine hx_plain rfl ?_; refine h_storeAll rfl rfl rfl rfl rfl rfl IC.size .head rfl rfl rfl (List.all_eq_true.1 rfl) ?_; refine hx_plain rfl ?_; refine h_assign rfl rfl rfl rfl ?_; refine hx_nil ?_; refine hq_then ?_; refine hc_seq ?_; refine hc_lex ?_; refine hx_plain rfl ?_; refine h_move rfl rfl rfl rfl ?_; refine hx_plain rfl ?_; refine h_cmp rfl rfl rfl rfl rfl rfl ?_; refine hx_nil ?_; refine hq_then ?_; refine hc_condDT rfl (by omega) ?_; refine hc_seq ?_; refine hc_lex ?_; refine hx_plain rfl ?_; refine h_build rfl inferInstance rfl rfl rfl rfl ?_; refine hx_plain rfl ?_; refine h_move rfl rfl rfl rfl ?_; refine hx_plain rfl ?_; refine h_storeAll rfl rfl rfl rfl rfl rfl IC.size (.tail (.tail (.tail .head))) rfl rfl rfl (List.all_eq_true.1 rfl) ?_; refine hx_plain rfl ?_; refine h_assign rfl rfl rfl rfl ?_; refine hx_nil ?_; refine hq_then ?_; refine hc_ret ?_; refine hq_ret_then ?_)
          exact hq_R2 (.inr rfl) rfl (rv_cell rfl .head UC.out rfl IC.size) (rv_tmp rfl) ⟨rfl, rfl⟩ (fun _ h => h.emp)
  · have hr : readR bs = (.z, 61) := if_neg (fun h => hl h.1)
    rw [hr]
    (refine hc_seq ?_; refine hc_lex ?_; refine hx_plain rfl ?_; (refine h_alloc rfl rfl IC.zero rfl rfl rfl (fun _ => ?_)); refine hx_plain rfl ?_; refine h_assign rfl rfl rfl rfl ?_; refine hx_nil ?_; refine hq_then ?_; refine hc_seq ?_; refine hc_seq ?_; refine hc_lex ?_; refine hx_plain rfl ?_; refine h_move rfl rfl rfl rfl ?_; refine hx_plain rfl ?_; refine h_len_slice rfl rfl rfl UC.out rfl rfl rfl ?_; refine hx_plain rfl ?_; refine h_cmp rfl rfl rfl rfl rfl rfl ?_; refine hx_plain rfl ?_; refine h_move rfl rfl rfl rfl ?_; refine hx_gT rfl rfl rfl (by omega) ?_; refine hx_skip rfl rfl rfl rfl rfl rfl ?_; refine hx_skip rfl rfl rfl rfl rfl rfl ?_; refine hx_skip rfl rfl rfl rfl rfl rfl ?_; refine hx_skip rfl rfl rfl rfl rfl rfl ?_; refine hx_plain rfl ?_; refine h_pickT rfl rfl rfl rfl rfl ?_; refine hx_nil ?_; refine hq_then ?_; refine hc_condT rfl ?_; refine hc_seq ?_; refine hc_lex ?_; refine hx_plain rfl ?_; refine h_build rfl inferInstance rfl rfl rfl rfl ?_; refine hx_plain rfl ?_; refine h_storeAll rfl rfl rfl rfl rfl rfl IC.size .head rfl rfl rfl (List.all_eq_true.1 rfl) ?_; refine hx_plain rfl ?_; refine h_assign rfl rfl rfl rfl ?_; refine hx_nil ?_; refine hq_then ?_; refine hc_ret ?_; refine hq_ret_then ?_)
    exact hq_R2 (.inr rfl) rfl (rv_cell rfl .head UC.out rfl IC.size) (rv_tmp rfl) ⟨rfl, rfl⟩ (fun _ h => h.emp)
end Go.Proofs.YtmdkboojafbpcaaDoor
