import Derived.Test.YtmdkboojafbpcaaDoorRr3
import Derived.Test.YtmdkboojafbpcaaDoorPl8
namespace Go.Proofs.YtmdkboojafbpcaaDoor
open Go Go.Proofs
set_option maxRecDepth 4000

theorem byts_set {l : List Int} (h : Byts l) (i : Nat) {y : Int} (hy : 0 ≤ y ∧ y ≤ 255) : Byts (l.set i y) := fun z hz => by
  rcases List.mem_or_eq_of_mem_set hz with h1 | rfl
  · exact h z h1
  · exact hy
set_option maxHeartbeats 8000000 in
theorem reads_law {w : World} (hw : CelAt 0 bndL w) {v : Value} {bs : List Int} (h1 : Rd byteE w v bs) (hby : Byts bs) (hn : bs.length ≤ 140737488351232) : Calls Tryd.prog 5 [v].toArray w (fun en w' => en = .returned (.bool true) ∧ But w w' nowhere) := by
  refine Makes.reads (makes_of Tryd.func5 rfl rfl (Nat.le_of_ble_eq_true rfl) ?_)
  have h0 := h1
  obtain ⟨a1, c1, rfl, l1, m1, k1⟩ := h1
  unfold maxLen at m1
  clear k1
  obtain ⟨sm, hsm⟩ : ∃ z, smallS = z := ⟨_, rfl⟩
  have hsmall := small_spec
  have key : ∃ er cs, cs.length = 512 ∧ Byts cs ∧ ∀ w', Makes Tryd.prog 19 [smallS.v] w' (fun v M => ∃ u, v = .tuple #[u, .int .i64 er] ∧ M = [RowV byteE 5 u cs]) :=
    ⟨_, _, by rw [superSmall, superR_len], by rw [superSmall]; exact superR_byts _, fun w' => rsuper_makes smallS⟩
  obtain ⟨e3, cs, hcl, hcb, sr⟩ := key
  rw [hsm] at hsmall sr
  obtain ⟨n, hnn⟩ : ∃ n, bs.length = n := ⟨_, rfl⟩
  obtain ⟨rl, hrl⟩ : ∃ rl, readR bs = rl := ⟨_, rfl⟩
  have hrm := fun w' v' (hc : CelAt 0 bndL w') (hr : Rd byteE w' v' bs) => (read_makes hc hr hby).reads
  have hrr := fun w' v' (hr : Rd byteE w' v' bs) => (rread_makes hr hby).reads
  simp only [hrl] at hrm hrr
  obtain ⟨s, er⟩ := rl
  dsimp only at hrm hrr
  have hl4 : (bs ++ [91, 92, 93]).length = n + 3 := by rw [List.length_append, hnn]; rfl
  have ht4 : (bs ++ [91, 92, 93]).take n = bs := by rw [List.take_append_of_le_length (by omega), List.take_of_length_le (by omega)]
  have hb4 : Byts (bs ++ [91, 92, 93]) := fun x hx => by
    rcases List.mem_append.1 hx with h | h
    · exact hby x h
    · simp at h
      omega
  have hroom : ∀ w' v', Rd byteE w' v' bs → Makes Tryd.prog 21 [v'] w' (fun u M => M = [RowV byteE 5 u (bs ++ [91, 92, 93])]) := fun w' v' h => roomy_makes h (by omega)
  obtain ⟨ws, hws⟩ : ∃ z, bs ++ [91, 92, 93] = z := ⟨_, rfl⟩
  rw [hws] at hl4 ht4 hb4
  simp only [hws] at hroom
  rw [hnn] at hn l1 h0 ⊢
  (refine hc_seq ?_; refine hc_lex ?_; refine hx_plain rfl ?_; refine h_assign rfl rfl rfl rfl ?_; refine hx_nil ?_; refine hq_then ?_; refine hc_seq ?_; refine hc_lex ?_; refine hx_plain rfl ?_)
  refine h_callRd rfl rfl rfl rfl rfl rfl EC.out (fun w' h => first_reads (h.celAt hw)) ?_
  (refine hx_plain rfl ?_; refine h_assign rfl rfl rfl rfl ?_; refine hx_nil ?_; refine hq_then ?_; refine hc_seq ?_; refine hc_seq ?_; refine hc_lex ?_; refine hx_plain rfl ?_; refine h_move rfl rfl rfl rfl ?_; refine hx_plain rfl ?_; refine h_not rfl rfl rfl rfl ?_; refine hx_nil ?_; refine hq_then ?_; refine hc_condF rfl ?_; refine hc_skip ?_; refine hq_then ?_; refine hc_seq ?_; refine hc_lex ?_; refine hx_plain rfl ?_; refine h_move rfl rfl rfl rfl ?_; refine hx_plain rfl ?_)
  refine h_callW (post := fun u M => M = [RowV byteE 5 u ws]) rfl rfl rfl rfl rfl rfl rfl rfl EC.out (fun w' h => hroom w' _ (h.rd h0)) ?_
  rintro u4 M rfl
  (refine hx_plain rfl ?_; refine h_assign rfl rfl rfl rfl ?_; refine hx_nil ?_; refine hq_then ?_)
  refine hc_rowV .head (fun _ e1 => by rw [e1] at hl4; cases hl4) ?_
  rintro g4 c4 rfl
  refine hc_know (fun _ h => St.row_le h) ?_
  rw [hl4]
  rintro ⟨hc4, hm4⟩
  (refine hc_seq ?_; refine hc_lex ?_; refine hx_plain rfl ?_; refine h_move rfl rfl rfl rfl ?_; refine hx_plain rfl ?_; refine h_move rfl rfl rfl rfl ?_; refine hx_plain rfl ?_; refine h_len_slice rfl rfl rfl UC.out rfl rfl rfl ?_; refine hx_plain rfl ?_; refine h_sliceTo rfl rfl rfl UC.out IC.size (by omega) rfl rfl ?_; refine hx_plain rfl ?_)
  refine h_callRd rfl rfl rfl rfl rfl rfl EC.out (fun w' h => hrm w' _ (h.celAt hw) (by have := (h.rdRow .head).takeN (n := n) (by omega); rwa [ht4] at this)) ?_
  (refine hx_plain rfl ?_; refine h_move rfl rfl rfl rfl ?_; refine hx_plain rfl ?_; refine h_extract rfl rfl rfl rfl rfl ?_; refine hx_plain rfl ?_; refine h_extract rfl rfl rfl rfl rfl ?_; refine hx_plain rfl ?_; (refine h_alloc rfl rfl IC.zero rfl rfl rfl (fun _ => ?_)); refine hx_plain rfl ?_; refine h_storeAll rfl rfl rfl rfl rfl rfl IC.size .head rfl rfl rfl (List.all_eq_true.1 rfl) ?_; refine hx_plain rfl ?_; refine h_assign rfl rfl rfl rfl ?_; refine hx_nil ?_; refine hq_then ?_; refine hc_seq ?_; refine hc_lex ?_; refine hx_plain rfl ?_; refine h_move rfl rfl rfl rfl ?_; refine hx_plain rfl ?_)
  refine h_callRd rfl rfl rfl rfl rfl rfl EC.out (fun w' h => hrr w' _ (h.rd h0)) ?_
  (refine hx_plain rfl ?_; refine h_move rfl rfl rfl rfl ?_; refine hx_plain rfl ?_; refine h_extract rfl rfl rfl rfl rfl ?_; refine hx_plain rfl ?_; refine h_extract rfl rfl rfl rfl rfl ?_; refine hx_plain rfl ?_; (refine h_alloc rfl rfl IC.zero rfl rfl rfl (fun _ => ?_)); refine hx_plain rfl ?_; refine h_storeAll rfl rfl rfl rfl rfl rfl IC.size .head rfl rfl rfl (List.all_eq_true.1 rfl) ?_; refine hx_plain rfl ?_; refine h_assign rfl rfl rfl rfl ?_; refine hx_nil ?_; refine hq_then ?_; refine hc_seq ?_; refine hc_lex ?_; refine hx_plain rfl ?_; refine h_loadP rfl rfl UC.out rfl IC.size (.tail .head) rfl rfl rfl rfl ?_; refine hx_plain rfl ?_; refine h_loadP rfl rfl UC.out rfl IC.size .head rfl rfl rfl rfl ?_; refine hx_plain rfl ?_)
  refine h_callR rfl rfl rfl rfl rfl rfl EC.out ((sameShape_spec s s).reads _) ?_
  rw [decide_eq_true rfl]
  (refine hx_plain rfl ?_; refine h_assign rfl rfl rfl rfl ?_; refine hx_nil ?_; refine hq_then ?_; refine hc_seq ?_; refine hc_lex ?_; refine hx_plain rfl ?_; refine h_move rfl rfl rfl rfl ?_; refine hx_plain rfl ?_; refine h_move rfl rfl rfl rfl ?_; refine hx_plain rfl ?_)
  refine h_callW (post := fun u M => M = [RowV byteE 5 u ws]) rfl rfl rfl rfl rfl rfl rfl rfl EC.out (fun w' h => hroom w' _ (h.rd h0)) ?_
  rintro u8 M rfl
  (refine hx_plain rfl ?_)
  rename_i b5 b7
  refine h_callRd rfl rfl rfl rfl rfl rfl EC.out (fun w' h => sameBytes (by have := h.rdRow (.tail (.tail (.tail .head))); rwa [hl4] at this) (h.rdRowV .head)) ?_
  rw [decide_eq_true rfl]
  (refine hx_plain rfl ?_; refine h_assign rfl rfl rfl rfl ?_; refine hx_nil ?_; refine hq_then ?_; refine hc_seq ?_; refine hc_seq ?_; refine hc_lex ?_; refine hx_plain rfl ?_; refine h_move rfl rfl rfl rfl ?_; refine hx_plain rfl ?_; refine h_not rfl rfl rfl rfl ?_; refine hx_plain rfl ?_; refine h_move rfl rfl rfl rfl ?_; refine hx_yes rfl rfl rfl ?_; refine h_move rfl rfl rfl rfl ?_; refine hx_yes rfl rfl rfl ?_; refine h_not rfl rfl rfl rfl ?_; refine hx_plain rfl ?_; refine h_pickF rfl rfl rfl rfl rfl ?_; refine hx_plain rfl ?_; refine h_move rfl rfl rfl rfl ?_; refine hx_yes rfl rfl rfl ?_; refine h_move rfl rfl rfl rfl ?_; refine hx_yes rfl rfl rfl ?_)
  refine h_callR rfl rfl rfl rfl rfl rfl EC.out ((num_spec er).reads _) ?_
  (refine hx_yes rfl rfl rfl ?_; refine h_move rfl rfl rfl rfl ?_; refine hx_yes rfl rfl rfl ?_; refine h_cmp rfl rfl rfl rfl rfl rfl ?_; refine hx_plain rfl ?_; refine h_pickF rfl rfl rfl rfl rfl ?_; refine hx_nil ?_; refine hq_then ?_; refine hc_condDF rfl (by omega) ?_; refine hc_skip ?_; refine hq_then ?_; refine hc_seq ?_; refine hc_lex ?_; refine hx_plain rfl ?_)
  refine h_callR rfl rfl rfl rfl rfl rfl EC.out (hsmall.reads _) ?_
  (refine hx_plain rfl ?_; refine h_move rfl rfl rfl rfl ?_; refine hx_plain rfl ?_; refine h_extract rfl rfl rfl rfl rfl ?_; refine hx_plain rfl ?_; refine h_extract rfl rfl rfl rfl rfl ?_; refine hx_plain rfl ?_; (refine h_alloc rfl rfl IC.zero rfl rfl rfl (fun _ => ?_)); refine hx_plain rfl ?_; (refine h_alloc rfl rfl IC.zero rfl rfl rfl (fun _ => ?_)); refine hx_plain rfl ?_; refine h_storeAll rfl rfl rfl rfl rfl rfl IC.size (.tail .head) rfl rfl rfl (List.all_eq_true.1 rfl) ?_; refine hx_plain rfl ?_; refine h_storeAll rfl rfl rfl rfl rfl rfl IC.size (.tail .head) rfl rfl rfl (List.all_eq_true.1 rfl) ?_; refine hx_nil ?_; refine hq_then ?_; refine hc_seq ?_; refine hc_lex ?_; refine hx_plain rfl ?_; refine h_loadP rfl rfl UC.out rfl IC.size (.tail .head) rfl rfl rfl rfl ?_; refine hx_plain rfl ?_)
  refine h_callW (post := fun v M => ∃ u, v = .tuple #[u, .int .i64 e3] ∧ M = [RowV byteE 5 u cs]) rfl rfl rfl rfl rfl rfl rfl rfl EC.out (fun w' h => sr w') ?_
  rintro v M ⟨u13, rfl, rfl⟩
  (refine hx_plain rfl ?_; refine h_move rfl rfl rfl rfl ?_; refine hx_plain rfl ?_; refine h_extract rfl rfl rfl rfl rfl ?_; refine hx_plain rfl ?_; refine h_extract rfl rfl rfl rfl rfl ?_; refine hx_plain rfl ?_; refine h_assign rfl rfl rfl rfl ?_; refine hx_plain rfl ?_; refine h_assign rfl rfl rfl rfl ?_; refine hx_nil ?_; refine hq_then ?_)
  refine hc_rowV .head (fun _ e1 => by rw [e1] at hcl; cases hcl) ?_
  rintro g13 c13 rfl
  rw [hcl]
  (refine hc_seq ?_; refine hc_seq ?_; refine hc_lex ?_; refine hx_plain rfl ?_; refine h_assign rfl rfl rfl rfl ?_; refine hx_nil ?_; refine hq_then ?_; refine hc_block ?_)
  refine hc_cut (id := 0) (Y := List Int) (fun _ => [(0, .slice a1 n c1), (4, .slice (some ⟨g4, 0, none⟩) (n + 3) c4), (5, .pointer (some ⟨b5, 0, none⟩)), (7, .pointer (some ⟨b7, 0, none⟩))]) (fun ys => [Row byteE 5 g4 c4 ys, Blk b7 (.cells s.cs 23), Blk b5 (.cells s.cs 23)]) (fun ys => ys.length = n + 3 ∧ Byts ys) ?_ ?_
  · refine hc_loop (X := Nat × List Int) (fun x => [(0, .slice a1 n c1), (4, .slice (some ⟨g4, 0, none⟩) (n + 3) c4), (5, .pointer (some ⟨b5, 0, none⟩)), (7, .pointer (some ⟨b7, 0, none⟩)), (13, .slice (some ⟨g13, 0, none⟩) 512 c13), (15, .int .i64 (x.1 : Int))]) (fun x => [Row byteE 5 g4 c4 x.2, Row byteE 5 g13 c13 cs, Blk b7 (.cells s.cs 23), Blk b5 (.cells s.cs 23)]) (fun x => x.1 ≤ n ∧ x.2.length = n + 3 ∧ Byts x.2) (fun x => n - x.1) (0, ws) (.cons rfl (.cons rfl (.cons rfl (.cons rfl (.cons rfl (.cons rfl .nil)))))) ⟨Nat.zero_le _, hl4, hb4⟩ (fun _ h => h.sub (.cons (.tail (.tail (.tail (.tail (.tail (.tail .head)))))) (.cons .head (.cons (.tail (.tail (.tail .head))) (.cons (.tail (.tail (.tail .head))) .nil))))) ?_
    rintro ⟨i, ys⟩ ⟨hi, hyl, hyb⟩
    dsimp only at hi hyl hyb ⊢
    by_cases hlt : i < n
    · have hiy : i < ys.length := by omega
      have hw8 : 0 ≤ IntKind.u8.wrap (i : Int) ∧ IntKind.u8.wrap (i : Int) ≤ 255 := by rw [wrap8_eq]; omega
      (refine hc_seq ?_; refine hc_seq ?_; refine hc_lex ?_; refine hx_plain rfl ?_; refine h_move rfl rfl rfl rfl ?_; refine hx_plain rfl ?_; refine h_move rfl rfl rfl rfl ?_; refine hx_plain rfl ?_; refine h_len_slice rfl rfl rfl UC.out rfl rfl rfl ?_; refine hx_plain rfl ?_; refine h_cmp rfl rfl rfl rfl rfl rfl ?_; refine hx_nil ?_; refine hq_then ?_; refine hc_condDT rfl (by omega) ?_; refine hc_skip ?_; refine hq_then ?_; refine hc_seq ?_; refine hc_block ?_; refine hc_seq ?_; refine hc_lex ?_; refine hx_plain rfl ?_; refine h_move rfl rfl rfl rfl ?_; refine hx_plain rfl ?_; refine h_move rfl rfl rfl rfl ?_; refine hx_plain rfl ?_; refine h_move rfl rfl rfl rfl ?_; refine hx_plain rfl ?_; refine h_convInt rfl rfl UC.out UC.out rfl rfl ?_; refine hx_plain rfl ?_; refine h_rowAddr rfl rfl rfl UC.out IC.size (by omega) (by omega) rfl rfl ?_; refine hx_plain rfl ?_)
      refine h_rowStoreN (i := i) (q := ys[i]) (IntKind.u8.wrap (i : Int)) rfl rfl rfl .head rfl rfl rfl IC.size (List.getElem?_eq_getElem hiy) rfl rfl ?_
      by_cases h512 : i < 512
      · have hic : i < cs.length := by omega
        (refine hx_nil ?_; refine hq_then ?_; refine hc_seq ?_; refine hc_lex ?_; refine hx_plain rfl ?_; refine h_move rfl rfl rfl rfl ?_; refine hx_plain rfl ?_; refine h_move rfl rfl rfl rfl ?_; refine hx_plain rfl ?_; refine h_len_slice rfl rfl rfl UC.out rfl rfl rfl ?_; refine hx_plain rfl ?_; refine h_cmp rfl rfl rfl rfl rfl rfl ?_; refine hx_nil ?_; refine hq_then ?_; refine hc_condDT rfl (by omega) ?_; refine hc_lex ?_; refine hx_plain rfl ?_; refine h_move rfl rfl rfl rfl ?_; refine hx_plain rfl ?_; refine h_move rfl rfl rfl rfl ?_; refine hx_plain rfl ?_; refine h_move rfl rfl rfl rfl ?_; refine hx_plain rfl ?_; refine h_move rfl rfl rfl rfl ?_; refine hx_plain rfl ?_; refine h_rowAddr rfl rfl rfl UC.out IC.size (by omega) (by omega) rfl rfl ?_; refine hx_plain rfl ?_)
        refine h_rowLoad1 (i := i) (y := cs[i]) rfl (.tail .head) rfl UC.out rfl (List.getElem?_eq_getElem hic) rfl rfl rfl ?_
        (refine hx_plain rfl ?_; refine h_rowAddr rfl rfl rfl UC.out IC.size (by omega) (by omega) rfl rfl ?_; refine hx_plain rfl ?_)
        refine h_rowStoreN (i := i) (q := IntKind.u8.wrap (i : Int)) cs[i] rfl rfl rfl .head rfl rfl rfl IC.size (List.getElem?_set_self hiy) rfl rfl ?_
        (refine hx_nil ?_; refine hq_norm_block ?_; refine hq_then ?_; refine hc_lex ?_; refine hx_plain rfl ?_; refine h_move rfl rfl rfl rfl ?_; refine hx_plain rfl ?_; refine h_arithI rfl rfl rfl rfl (by omega) rfl rfl ?_; refine hx_plain rfl ?_; refine h_assign rfl rfl rfl rfl ?_; refine hx_nil ?_)
        exact hq_round (i + 1, (ys.set i (IntKind.u8.wrap (i : Int))).set i cs[i]) (by show n - (i + 1) < n - i; omega) ⟨by show i + 1 ≤ n; omega, by rw [List.length_set, List.length_set]; exact hyl, byts_set (byts_set hyb _ hw8) _ (hcb _ (List.getElem_mem hic))⟩ (.cons rfl (.cons rfl (.cons rfl (.cons rfl (.cons rfl (.cons rfl .nil)))))) (fun _ h => h)
      · (refine hx_nil ?_; refine hq_then ?_; refine hc_seq ?_; refine hc_lex ?_; refine hx_plain rfl ?_; refine h_move rfl rfl rfl rfl ?_; refine hx_plain rfl ?_; refine h_move rfl rfl rfl rfl ?_; refine hx_plain rfl ?_; refine h_len_slice rfl rfl rfl UC.out rfl rfl rfl ?_; refine hx_plain rfl ?_; refine h_cmp rfl rfl rfl rfl rfl rfl ?_; refine hx_nil ?_; refine hq_then ?_; refine hc_condDF rfl (by omega) ?_; refine hc_skip ?_; refine hq_norm_block ?_; refine hq_then ?_; refine hc_lex ?_; refine hx_plain rfl ?_; refine h_move rfl rfl rfl rfl ?_; refine hx_plain rfl ?_; refine h_arithI rfl rfl rfl rfl (by omega) rfl rfl ?_; refine hx_plain rfl ?_; refine h_assign rfl rfl rfl rfl ?_; refine hx_nil ?_)
        exact hq_round (i + 1, ys.set i (IntKind.u8.wrap (i : Int))) (by show n - (i + 1) < n - i; omega) ⟨by show i + 1 ≤ n; omega, by rw [List.length_set]; exact hyl, byts_set hyb _ hw8⟩ (.cons rfl (.cons rfl (.cons rfl (.cons rfl (.cons rfl (.cons rfl .nil)))))) (fun _ h => h)
    · (refine hc_seq ?_; refine hc_seq ?_; refine hc_lex ?_; refine hx_plain rfl ?_; refine h_move rfl rfl rfl rfl ?_; refine hx_plain rfl ?_; refine h_move rfl rfl rfl rfl ?_; refine hx_plain rfl ?_; refine h_len_slice rfl rfl rfl UC.out rfl rfl rfl ?_; refine hx_plain rfl ?_; refine h_cmp rfl rfl rfl rfl rfl rfl ?_; refine hx_nil ?_; refine hq_then ?_; refine hc_condDF rfl (by omega) ?_; refine hc_exit ?_; refine hq_exit_then ?_; refine hq_exit_then ?_)
      exact hq_cut ys ⟨hyl, hyb⟩ (.cons rfl (.cons rfl (.cons rfl (.cons rfl .nil)))) (fun _ h => h.sub (.cons .head (.cons (.tail .head) (.cons (.tail .head) .nil))))
  · rintro ys ⟨hyl, hyb⟩
    have hzl : (ys.take n).length = n := by rw [List.length_take]; omega
    have hzb : Byts (ys.take n) := hyb.take n
    obtain ⟨zs, hzs⟩ : ∃ z, ys.take n = z := ⟨_, rfl⟩
    rw [hzs] at hzl hzb
    obtain ⟨rl, hrl2⟩ : ∃ rl, readR zs = rl := ⟨_, rfl⟩
    have hrm2 := fun w' v' (hc : CelAt 0 bndL w') (hr : Rd byteE w' v' zs) => (read_makes hc hr hzb).reads
    have hrr2 := fun w' v' (hr : Rd byteE w' v' zs) => (rread_makes hr hzb).reads
    simp only [hrl2] at hrm2 hrr2
    obtain ⟨s2, er2⟩ := rl
    dsimp only at hrm2 hrr2
    (refine hq_exit_block ?_; refine hq_then ?_; refine hc_seq ?_; refine hc_lex ?_; refine hx_plain rfl ?_; refine h_move rfl rfl rfl rfl ?_; refine hx_plain rfl ?_; refine h_move rfl rfl rfl rfl ?_; refine hx_plain rfl ?_; refine h_len_slice rfl rfl rfl UC.out rfl rfl rfl ?_; refine hx_plain rfl ?_; refine h_sliceTo rfl rfl rfl UC.out IC.size (by omega) rfl rfl ?_; refine hx_plain rfl ?_)
    refine h_callRd rfl rfl rfl rfl rfl rfl EC.out (fun w' h => hrm2 w' _ (h.celAt hw) (by have := (h.rdRow .head).takeN (n := n) (by omega); rwa [hzs] at this)) ?_
    (refine hx_plain rfl ?_; refine h_move rfl rfl rfl rfl ?_; refine hx_plain rfl ?_; refine h_extract rfl rfl rfl rfl rfl ?_; refine hx_plain rfl ?_; refine h_extract rfl rfl rfl rfl rfl ?_; refine hx_plain rfl ?_; refine h_storeAll rfl rfl rfl rfl rfl rfl IC.size (.tail (.tail .head)) rfl rfl rfl (List.all_eq_true.1 rfl) ?_; refine hx_plain rfl ?_; refine h_assign rfl rfl rfl rfl ?_; refine hx_nil ?_; refine hq_then ?_; refine hc_seq ?_; refine hc_lex ?_; refine hx_plain rfl ?_; refine h_move rfl rfl rfl rfl ?_; refine hx_plain rfl ?_; refine h_move rfl rfl rfl rfl ?_; refine hx_plain rfl ?_; refine h_len_slice rfl rfl rfl UC.out rfl rfl rfl ?_; refine hx_plain rfl ?_; refine h_sliceTo rfl rfl rfl UC.out IC.size (by omega) rfl rfl ?_; refine hx_plain rfl ?_)
    refine h_callW (post := fun u M => M = [RowV byteE 5 u zs]) rfl rfl rfl rfl rfl rfl rfl rfl EC.out (fun w' h => bytes_big (by have := (h.rdRow (.tail .head)).takeN (n := n) (by omega); rwa [hzs] at this) (by omega)) ?_
    rintro u97 M rfl
    (refine hx_plain rfl ?_)
    refine h_callRd rfl rfl rfl rfl rfl rfl EC.out (fun w' h => hrr2 w' _ (h.rdRowV .head)) ?_
    (refine hx_plain rfl ?_; refine h_move rfl rfl rfl rfl ?_; refine hx_plain rfl ?_; refine h_extract rfl rfl rfl rfl rfl ?_; refine hx_plain rfl ?_; refine h_extract rfl rfl rfl rfl rfl ?_; refine hx_plain rfl ?_; refine h_storeAll rfl rfl rfl rfl rfl rfl IC.size (.tail (.tail (.tail .head))) rfl rfl rfl (List.all_eq_true.1 rfl) ?_; refine hx_plain rfl ?_; refine h_assign rfl rfl rfl rfl ?_; refine hx_nil ?_; refine hq_then ?_; refine hc_seq ?_; refine hc_lex ?_; refine hx_plain rfl ?_; refine h_loadP rfl rfl UC.out rfl IC.size (.tail (.tail .head)) rfl rfl rfl rfl ?_; refine hx_plain rfl ?_; refine h_loadP rfl rfl UC.out rfl IC.size .head rfl rfl rfl rfl ?_; refine hx_plain rfl ?_)
    refine h_callR rfl rfl rfl rfl rfl rfl EC.out ((sameShape_spec s2 s2).reads _) ?_
    rw [decide_eq_true rfl]
    (refine hx_plain rfl ?_; refine h_assign rfl rfl rfl rfl ?_; refine hx_nil ?_; refine hq_then ?_; refine hc_seq ?_; refine hc_lex ?_; refine hx_plain rfl ?_; refine h_move rfl rfl rfl rfl ?_; refine hx_plain rfl ?_; refine h_move rfl rfl rfl rfl ?_; refine hx_yes rfl rfl rfl ?_; refine h_move rfl rfl rfl rfl ?_; refine hx_yes rfl rfl rfl ?_)
    refine h_callR rfl rfl rfl rfl rfl rfl EC.out ((num_spec er2).reads _) ?_
    (refine hx_yes rfl rfl rfl ?_; refine h_move rfl rfl rfl rfl ?_; refine hx_yes rfl rfl rfl ?_; refine h_cmp rfl rfl rfl rfl rfl rfl ?_; refine hx_plain rfl ?_; refine h_pickT rfl rfl rfl rfl rfl ?_; refine hx_plain rfl ?_; refine h_assign rfl rfl rfl rfl ?_; refine hx_nil ?_; refine hq_then ?_; refine hc_ret ?_)
    exact hq_ret1 (.inr rfl) rfl rfl ⟨by rw [decide_eq_true rfl], rfl⟩ (fun _ h => h.emp)
end Go.Proofs.YtmdkboojafbpcaaDoor
