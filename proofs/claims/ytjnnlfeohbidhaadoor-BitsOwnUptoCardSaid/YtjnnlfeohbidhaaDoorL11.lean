import Derived.Test.YtjnnlfeohbidhaaDoorL10
import Derived.Test.YtjnnlfeohbidhaaDoorL7
namespace Go.Proofs.YtjnnlfeohbidhaaDoor
open Go Go.Proofs Go.RowKit
set_option maxRecDepth 4000

theorem St.row_cap {X : Type} {E : Elem X} {T g cap : Nat} {w0 : World} {F0 : Nat → Prop} {L L' : List Asn} {w : World} {xs : List X} (h : St w0 F0 L w) (hp : Pull L (Row E T g cap xs) L') : xs.length ≤ cap := by
  obtain ⟨a, c, e, h1, _, _⟩ := h.rdRow hp
  injection e with _ _ e3
  subst e3
  exact h1
theorem allB_bulk : ∀ (ls : List (ItM × List Int)), (allB ls).length ≤ 8 * (ls.map (fun q => q.2.length + 1)).sum
  | [] => by simp [allB]
  | q :: ls => by
    have h1 := allB_bulk ls
    have h3 := itB_len q.1 q.2
    unfold allB at *
    rw [List.flatMap_cons, List.length_append, List.map_cons, List.sum_cons]
    omega
theorem sum_take : ∀ (ls : List (ItM × List Int)) (i : Nat), ((ls.take i).map (fun q => q.2.length + 1)).sum ≤ (ls.map (fun q => q.2.length + 1)).sum
  | [], _ => by simp
  | _ :: _, 0 => by simp
  | q :: ls, i + 1 => by
    have := sum_take ls i
    rw [List.take_succ_cons, List.map_cons, List.sum_cons, List.map_cons, List.sum_cons]
    omega
theorem sum_mem : ∀ (ls : List (ItM × List Int)) (q : ItM × List Int), q ∈ ls → q.2.length + 1 ≤ (ls.map (fun q => q.2.length + 1)).sum
  | p :: ls, q, h => by
    rw [List.map_cons, List.sum_cons]
    rcases List.mem_cons.1 h with rfl | h
    · omega
    · have := sum_mem ls q h
      omega
theorem sum_len : ∀ (ls : List (ItM × List Int)), ls.length ≤ (ls.map (fun q => q.2.length + 1)).sum
  | [] => by simp
  | p :: ls => by
    have := sum_len ls
    rw [List.map_cons, List.sum_cons, List.length_cons]
    omega
theorem byts_room {ds : List Int} (h : Byts ds) : Byts (ds ++ [161, 162, 163]) := fun x hx => by
  rcases List.mem_append.1 hx with hx | hx
  · exact h x hx
  · simp at hx
    rcases hx with rfl | rfl | rfl <;> decide
set_option maxHeartbeats 8000000 in
theorem bitsputs_law {E : Addr} {g : Nat} {w : World} {v1 v2 : Value} {bs : List Int} {items : List (ItM × List Int)} (hI : Glo (gl E) g w) (h1 : Rd byteE w v1 bs) (h2 : Rd itE w v2 (items.map (·.1))) (hit : ∀ q ∈ items, ItR w q.1 q.2) (hbl : bs.length ≤ 1048576) (htot : (items.map (fun q => q.2.length + 1)).sum ≤ 1048576) :
    Calls Tryd.prog 3 [v1, v2].toArray w (fun en w' => en = .returned (.bool true) ∧ But w w' nowhere) := by
  have hF : ∀ b, nowhere b → g ≤ b := fun _ h => h.elim
  have hn := sum_len items
  have hml : (items.map (·.1)).length = items.length := List.length_map ..
  obtain ⟨a2, c2, rfl, l2, m2, k2⟩ := h2
  unfold maxLen at m2
  refine reads_of Tryd.func3 rfl rfl (Nat.le_of_ble_eq_true rfl) ?_
  (refine hc_seq ?_; refine hc_lex ?_; refine hx_plain rfl ?_; refine h_assign rfl rfl rfl rfl ?_; refine hx_nil ?_; refine hq_then ?_; refine hc_seq ?_; refine hc_lex ?_; refine hx_plain rfl ?_)
  refine h_callI hI hF rfl rfl rfl rfl rfl rfl rfl rfl EC.out .nil (head_spec E g) ?_
  rintro u M ⟨rfl, rfl⟩
  (refine hx_plain rfl ?_; refine h_assign rfl rfl rfl rfl ?_; refine hx_nil ?_; refine hq_then ?_; refine hc_seq ?_; refine hc_seq ?_; refine hc_lex ?_; refine hx_plain rfl ?_; refine h_move rfl rfl rfl rfl ?_; refine hx_plain rfl ?_; refine h_not rfl rfl rfl rfl ?_; refine hx_nil ?_; refine hq_then ?_; refine hc_condF rfl ?_; refine hc_skip ?_; refine hq_then ?_; refine hc_seq ?_; refine hc_lex ?_; refine hx_plain rfl ?_; refine h_move rfl rfl rfl rfl ?_; refine hx_plain rfl ?_)
  refine h_callW (post := fun u M => ∃ a c, u = .slice a bs.length c ∧ M = [RowV byteE 5 u bs]) rfl rfl rfl rfl rfl rfl rfl rfl EC.out (fun w' h => (bytes_makes (h.rd h1) (by omega)).shape) ?_
  rintro vl M ⟨al, cl, rfl, rfl⟩
  (refine hx_plain rfl ?_; refine h_assign rfl rfl rfl rfl ?_; refine hx_nil ?_; refine hq_then ?_; refine hc_seq ?_; refine hc_lex ?_; refine hx_plain rfl ?_; refine h_move rfl rfl rfl rfl ?_; refine hx_plain rfl ?_)
  refine h_callW (post := fun u M => M = [RowV byteE 5 u bs]) rfl rfl rfl rfl rfl rfl rfl rfl EC.out (fun w' h => bytes_makes (h.rd h1) (by omega)) ?_
  rintro vm M rfl
  (refine hx_plain rfl ?_; refine h_assign rfl rfl rfl rfl ?_; refine hx_nil ?_; refine hq_then ?_; refine hc_seq ?_; refine hc_seq ?_; refine hc_lex ?_; refine hx_plain rfl ?_; refine h_assign rfl rfl rfl rfl ?_; refine hx_nil ?_; refine hq_then ?_; refine hc_block ?_)
  refine hc_cut (id := 0) (Y := Unit) (fun _ => []) (fun _ => []) (fun _ => True) ?_ ?_
  · refine hc_loop (X := Nat × (Option Addr × Nat × Nat) × Value) (fun x => [(1, .slice a2 (items.map (·.1)).length c2), (6, .slice x.2.1.1 x.2.1.2.1 x.2.1.2.2), (7, x.2.2), (8, .int .i64 (x.1 : Int))]) (fun x => [RowV byteE 5 (.slice x.2.1.1 x.2.1.2.1 x.2.1.2.2) (bs ++ allB (items.take x.1)), RowV byteE 5 x.2.2 (bs ++ allB (items.take x.1))]) (fun x => x.1 ≤ items.length ∧ x.2.1.2.1 = (bs ++ allB (items.take x.1)).length) (fun x => items.length - x.1) (0, (al, bs.length, cl), vm) (.cons rfl (.cons rfl (.cons rfl (.cons rfl .nil)))) ⟨Nat.zero_le _, by simp [allB]⟩ (fun _ h => by show St _ _ [RowV _ _ (.slice al bs.length cl) (bs ++ allB (items.take 0)), RowV _ _ vm (bs ++ allB (items.take 0))] _; rw [List.take_zero, show allB [] = [] from rfl, List.append_nil]; exact h.sub (.cons (.tail .head) (.cons .head .nil))) ?_
    rintro ⟨i, ⟨al, nl, cl⟩, vm⟩ ⟨hi, hnl⟩
    dsimp only at hi hnl ⊢
    subst hnl
    by_cases hlt : i < items.length
    case neg =>
      (refine hc_seq ?_; refine hc_seq ?_; refine hc_lex ?_; refine hx_plain rfl ?_; refine h_move rfl rfl rfl rfl ?_; refine hx_plain rfl ?_; refine h_move rfl rfl rfl rfl ?_; refine hx_plain rfl ?_; refine h_len_slice rfl rfl rfl UC.out rfl rfl rfl ?_; refine hx_plain rfl ?_; refine h_cmp rfl rfl rfl rfl rfl rfl ?_; refine hx_nil ?_; refine hq_then ?_; refine hc_condDF rfl (by omega) ?_; refine hc_exit ?_; refine hq_exit_then ?_; refine hq_exit_then ?_)
      exact hq_cut () trivial .nil (fun _ h => h.emp)
    have hps : items.map (·.1) ≠ [] := by
      intro e
      have := congrArg List.length e
      rw [hml, List.length_nil] at this
      omega
    obtain ⟨g1, o1, rfl, r1⟩ := k2.resolve_left hps
    obtain ⟨⟨t, ds⟩, hq⟩ : ∃ q, items[i] = q := ⟨_, rfl⟩
    have e1 : (items.map (·.1))[((i : Nat) : Int).toNat]? = some t := by
      rw [List.getElem?_map, show ((i : Nat) : Int).toNat = i by omega, List.getElem?_eq_getElem hlt, hq]
      rfl
    have hr := hit _ (List.getElem_mem hlt)
    have hdl := sum_mem items _ (List.getElem_mem hlt)
    rw [hq] at hr hdl
    dsimp only at hdl
    have hsl := hr.slen
    dsimp only at hr hsl
    obtain ⟨k, x, s, ⟨sa, sl, sc⟩⟩ := t
    dsimp only at hsl
    subst hsl
    have hnx : bs ++ allB (items.take (i + 1)) = (bs ++ allB (items.take i)) ++ itB ⟨k, x, s, ⟨sa, ds.length, sc⟩⟩ ds := by rw [allB_succ hlt, hq, List.append_assoc]
    have hal : (bs ++ allB (items.take i)).length ≤ 9437184 := by
      have h3 := allB_bulk (items.take i)
      have h4 := sum_take items i
      rw [List.length_append]
      omega
    obtain ⟨acc, hacc⟩ : ∃ y, bs ++ allB (items.take i) = y := ⟨_, rfl⟩
    rw [hacc] at hal ⊢
    (refine hc_seq ?_; refine hc_seq ?_; refine hc_lex ?_; refine hx_plain rfl ?_; refine h_move rfl rfl rfl rfl ?_; refine hx_plain rfl ?_; refine h_move rfl rfl rfl rfl ?_; refine hx_plain rfl ?_; refine h_len_slice rfl rfl rfl UC.out rfl rfl rfl ?_; refine hx_plain rfl ?_; refine h_cmp rfl rfl rfl rfl rfl rfl ?_; refine hx_nil ?_; refine hq_then ?_; refine hc_condDT rfl (by omega) ?_; refine hc_skip ?_; refine hq_then ?_; refine hc_seq ?_; refine hc_block ?_; refine hc_seq ?_; refine hc_lex ?_; refine hx_plain rfl ?_; refine h_move rfl rfl rfl rfl ?_; refine hx_plain rfl ?_)
    refine h_callW (post := fun u M => M = [RowV byteE 5 u (acc ++ [161, 162, 163])]) rfl rfl rfl rfl rfl rfl rfl rfl EC.out (fun w' h => room_makes (h.rdRowV .head) (by omega)) ?_
    rintro vf M rfl
    (refine hx_plain rfl ?_; refine h_assign rfl rfl rfl rfl ?_; refine hx_nil ?_; refine hq_then ?_)
    refine hc_rowV .head (fun _ e => by simp at e) ?_
    rintro gf cf rfl
    refine hc_know (fun _ h => h.row_cap .head) (fun hcf => ?_)
    have hlf : (acc ++ [161, 162, 163]).length = acc.length + 3 := by rw [List.length_append]; rfl
    (refine hc_seq ?_; refine hc_lex ?_; refine hx_plain rfl ?_; refine h_move rfl rfl rfl rfl ?_; refine hx_plain rfl ?_; refine h_move rfl rfl rfl rfl ?_; refine hx_plain rfl ?_; refine h_indexAddr rfl rfl rfl UC.out IC.size (by omega) (by omega) rfl rfl ?_; refine hx_plain rfl ?_; refine h_rdLoadN rfl r1 rfl UC.out rfl IC.size (by with_reducible assumption) rfl rfl rfl ?_; refine hx_plain rfl ?_; (refine h_alloc rfl rfl IC.zero rfl rfl rfl (fun _ => ?_)); refine hx_plain rfl ?_; refine h_storeAll rfl rfl rfl rfl rfl rfl IC.size .head rfl rfl rfl (List.all_eq_true.1 rfl) ?_; refine hx_nil ?_; refine hq_then ?_; refine hc_seq ?_; refine hc_lex ?_; refine hx_plain rfl ?_; refine h_fieldAddr0 rfl rfl FC.out rfl rfl ?_; refine hx_plain rfl ?_; refine h_load rfl rfl UC.out rfl .head rfl rfl rfl ?_; refine hx_plain rfl ?_)
    rename_i bx
    refine h_callW (post := fun u M => M = [RowV byteE 5 u (ds ++ [161, 162, 163])]) rfl rfl rfl rfl rfl rfl rfl rfl EC.out (fun w' h => room_makes (h.rd hr.rd) (by omega)) ?_
    rintro vd M rfl
    (refine hx_plain rfl ?_; refine h_assign rfl rfl rfl rfl ?_; refine hx_nil ?_; refine hq_then ?_)
    refine hc_rowV .head (fun _ e => by simp at e) ?_
    rintro gd cd rfl
    refine hc_know (fun _ h => h.row_cap .head) (fun hcd => ?_)
    have hld : (ds ++ [161, 162, 163]).length = ds.length + 3 := by rw [List.length_append]; rfl
    have tkd : (ds ++ [161, 162, 163]).take ds.length = ds := by simp
    have tkf : (acc ++ [161, 162, 163]).take acc.length = acc := by simp
    have rdD : ∀ w' L F0 w0 L', St w0 F0 L w' → Pull L (Row byteE 5 gd cd (ds ++ [161, 162, 163])) L' → Rd byteE w' (.slice (some ⟨gd, 0, none⟩) ds.length cd) ds := fun w' L F0 w0 L' h hp => by have := (h.rdRow hp).pre (n := ds.length) (by omega); rwa [tkd] at this
    have rdF : ∀ w' L F0 w0 L', St w0 F0 L w' → Pull L (Row byteE 5 gf cf (acc ++ [161, 162, 163])) L' → Rd byteE w' (.slice (some ⟨gf, 0, none⟩) acc.length cf) acc := fun w' L F0 w0 L' h hp => by have := (h.rdRow hp).pre (n := acc.length) (by omega); rwa [tkf] at this
    (refine hc_seq ?_; refine hc_lex ?_; refine hx_plain rfl ?_; refine h_move rfl rfl rfl rfl ?_; refine hx_plain rfl ?_; refine h_move rfl rfl rfl rfl ?_; refine hx_plain rfl ?_; refine h_move rfl rfl rfl rfl ?_; refine hx_plain rfl ?_; refine h_indexAddr rfl rfl rfl UC.out IC.size (by omega) (by omega) rfl rfl ?_; refine hx_plain rfl ?_; refine h_fieldAddr rfl rfl FC.out rfl rfl ?_; refine hx_plain rfl ?_; refine h_rdLoad rfl r1 rfl UC.out rfl (by with_reducible assumption) rfl rfl rfl ?_; refine hx_plain rfl ?_; refine h_len_slice rfl rfl rfl UC.out rfl rfl rfl ?_; refine hx_plain rfl ?_)
    refine h_sliceTo (i := (ds.length : Int)) rfl rfl rfl UC.out IC.size (by omega) rfl rfl ?_
    rw [Int.toNat_natCast]
    (refine hx_plain rfl ?_; refine h_fieldAddr0 rfl rfl FC.out rfl rfl ?_; refine hx_plain rfl ?_; refine h_store1 rfl rfl rfl rfl rfl rfl IC.size (.tail .head) rfl rfl rfl ?_; refine hx_nil ?_; refine hq_then ?_; refine hc_seq ?_; refine hc_draw0 (by kernel_rfl) (by kernel_rfl) ?_; refine hx_plain rfl ?_; refine h_move rfl rfl rfl rfl ?_; refine hx_plain rfl ?_; refine h_move rfl rfl rfl rfl ?_; refine hx_plain rfl ?_; refine h_len_slice rfl rfl rfl UC.out rfl rfl rfl ?_; refine hx_plain rfl ?_; refine h_sliceTo rfl rfl rfl UC.out IC.size (by omega) rfl rfl ?_; refine hx_plain rfl ?_; refine h_loadP rfl rfl UC.out rfl IC.size .head rfl rfl rfl rfl ?_; refine hx_plain rfl ?_)
    refine h_callW (post := fun u M => ∃ a c, u = .slice a (acc ++ itB ⟨k, x, s, ⟨sa, ds.length, sc⟩⟩ ds).length c ∧ M = [RowV byteE 5 u (acc ++ itB ⟨k, x, s, ⟨sa, ds.length, sc⟩⟩ ds)]) rfl rfl rfl rfl rfl rfl rfl rfl EC.out (fun w' h => (put_makes ⟨k, x, s, ⟨some ⟨gd, 0, none⟩, ds.length, cd⟩⟩ (rdF _ _ _ _ _ h (.tail (.tail .head))) (rdD _ _ _ _ _ h (.tail .head)) hr.byts (by omega)).shape) ?_
    rintro vn M ⟨an, cn, rfl, rfl⟩
    (refine hx_plain rfl ?_; refine h_assign rfl rfl rfl rfl ?_; refine hx_nil ?_; refine hq_then ?_; refine hc_seq ?_; refine hc_lex ?_; refine hx_plain rfl ?_; refine h_move rfl rfl rfl rfl ?_; refine hx_plain rfl ?_; refine h_move rfl rfl rfl rfl ?_; refine hx_plain rfl ?_; refine h_move rfl rfl rfl rfl ?_; refine hx_plain rfl ?_; refine h_indexAddr rfl rfl rfl UC.out IC.size (by omega) (by omega) rfl rfl ?_; refine hx_plain rfl ?_; refine h_rdLoadN rfl r1 rfl UC.out rfl IC.size (by with_reducible assumption) rfl rfl rfl ?_; refine hx_plain rfl ?_)
    refine h_callW (post := fun u M => M = [RowV byteE 5 u (acc ++ itB ⟨k, x, s, ⟨sa, ds.length, sc⟩⟩ ds)]) rfl rfl rfl rfl rfl rfl rfl rfl EC.out (fun w' h => want_makes ⟨k, x, s, ⟨sa, ds.length, sc⟩⟩ hr.s (h.rdRowV (.tail (.tail (.tail (.tail (.tail .head)))))) (h.rd hr.rd) hr.byts (by omega)) ?_
    rintro vm' M rfl
    (refine hx_plain rfl ?_; refine h_assign rfl rfl rfl rfl ?_; refine hx_nil ?_; refine hq_then ?_; refine hc_seq ?_; refine hc_lex ?_; refine hx_plain rfl ?_; refine h_move rfl rfl rfl rfl ?_; refine hx_plain rfl ?_; refine h_move rfl rfl rfl rfl ?_; refine hx_plain rfl ?_)
    refine h_callR rfl rfl rfl rfl rfl rfl EC.out (fun w' h => sameBytes (h.rdRowV (.tail .head)) (h.rdRowV .head)) ?_
    rw [decide_eq_true rfl]
    (refine hx_plain rfl ?_; refine h_assign rfl rfl rfl rfl ?_; refine hx_nil ?_; refine hq_then ?_; refine hc_seq ?_; refine hc_lex ?_; refine hx_plain rfl ?_; refine h_move rfl rfl rfl rfl ?_; refine hx_plain rfl ?_; refine h_move rfl rfl rfl rfl ?_; refine hx_plain rfl ?_)
    refine h_callW (post := fun u M => M = [RowV byteE 5 u (acc ++ [161, 162, 163])]) rfl rfl rfl rfl rfl rfl rfl rfl EC.out (fun w' h => room_makes (h.rdRowV (.tail (.tail (.tail (.tail (.tail .head)))))) (by omega)) ?_
    rintro z1 M rfl
    (refine hx_plain rfl ?_)
    refine h_callR rfl rfl rfl rfl rfl rfl EC.out (fun w' h => sameBytes (h.rdRow (.tail (.tail (.tail (.tail (.tail .head)))))) (h.rdRowV .head)) ?_
    rw [decide_eq_true rfl]
    (refine hx_plain rfl ?_; refine h_move rfl rfl rfl rfl ?_; refine hx_yes rfl rfl rfl ?_; refine h_move rfl rfl rfl rfl ?_; refine hx_yes rfl rfl rfl ?_; refine h_move rfl rfl rfl rfl ?_; refine hx_yes rfl rfl rfl ?_; refine h_move rfl rfl rfl rfl ?_; refine hx_yes rfl rfl rfl ?_; refine h_indexAddr rfl rfl rfl UC.out IC.size (by omega) (by omega) rfl rfl ?_; refine hx_yes rfl rfl rfl ?_; refine h_fieldAddr rfl rfl FC.out rfl rfl ?_; refine hx_yes rfl rfl rfl ?_; refine h_rdLoad rfl r1 rfl UC.out rfl (by with_reducible assumption) rfl rfl rfl ?_; refine hx_yes rfl rfl rfl ?_)
    refine h_callW (post := fun u M => M = [RowV byteE 5 u (ds ++ [161, 162, 163])]) rfl rfl rfl rfl rfl rfl rfl rfl EC.out (fun w' h => room_makes (h.rd hr.rd) (by omega)) ?_
    rintro z2 M rfl
    (refine hx_yes rfl rfl rfl ?_)
    refine h_callR rfl rfl rfl rfl rfl rfl EC.out (fun w' h => sameBytes (h.rdRow (.tail (.tail (.tail (.tail (.tail .head)))))) (h.rdRowV .head)) ?_
    rw [decide_eq_true rfl]
    (refine hx_plain rfl ?_; refine h_pickT rfl rfl rfl rfl rfl ?_; refine hx_plain rfl ?_; refine h_assign rfl rfl rfl rfl ?_; refine hx_nil ?_; refine hq_then ?_; refine hc_seq ?_; refine hc_seq ?_; refine hc_draw0 (by kernel_rfl) (by kernel_rfl) ?_; refine hx_plain rfl ?_; refine h_move rfl rfl rfl rfl ?_; refine hx_plain rfl ?_; refine h_not rfl rfl rfl rfl ?_; refine hx_plain rfl ?_; refine h_move rfl rfl rfl rfl ?_; refine hx_yes rfl rfl rfl ?_; refine h_move rfl rfl rfl rfl ?_; refine hx_yes rfl rfl rfl ?_; refine h_not rfl rfl rfl rfl ?_; refine hx_plain rfl ?_; refine h_pickF rfl rfl rfl rfl rfl ?_; refine hx_plain rfl ?_; refine h_move rfl rfl rfl rfl ?_; refine hx_yes rfl rfl rfl ?_; refine h_move rfl rfl rfl rfl ?_; refine hx_yes rfl rfl rfl ?_; refine h_move rfl rfl rfl rfl ?_; refine hx_yes rfl rfl rfl ?_; refine h_len_slice rfl rfl rfl UC.out rfl rfl rfl ?_; refine hx_yes rfl rfl rfl ?_; refine h_sliceTo rfl rfl rfl UC.out IC.size (by omega) rfl rfl ?_; refine hx_yes rfl rfl rfl ?_; refine h_loadP rfl rfl UC.out rfl IC.size (.tail (.tail (.tail (.tail .head)))) rfl rfl rfl rfl ?_; refine hx_yes rfl rfl rfl ?_; refine h_move rfl rfl rfl rfl ?_; refine hx_yes rfl rfl rfl ?_)
    refine h_call rfl rfl rfl rfl rfl rfl rfl rfl EC.out (.cons (.tail (.tail (.tail (.tail (.tail (.tail .head)))))) (.cons (.tail (.tail (.tail (.tail (.tail .head))))) .nil)) (turned_spec gf cf acc.length gd cd ds.length k x s (acc ++ [161, 162, 163]) (ds ++ [161, 162, 163]) (by omega) (by omega) (byts_room hr.byts) hr.s (by omega) hcf hcd) ?_
    rintro u M ⟨rfl, rfl⟩
    (refine hx_yes rfl rfl rfl ?_; refine h_not rfl rfl rfl rfl ?_; refine hx_plain rfl ?_; refine h_pickF rfl rfl rfl rfl rfl ?_; refine hx_nil ?_; refine hq_then ?_; refine hc_condF rfl ?_; refine hc_skip ?_; refine hq_then ?_; refine hc_lex ?_; refine hx_plain rfl ?_; refine h_move rfl rfl rfl rfl ?_; refine hx_plain rfl ?_; refine h_assign rfl rfl rfl rfl ?_; refine hx_nil ?_; refine hq_norm_block ?_; refine hq_then ?_; refine hc_lex ?_; refine hx_plain rfl ?_; refine h_move rfl rfl rfl rfl ?_; refine hx_plain rfl ?_; refine h_arithI rfl rfl rfl rfl (by omega) rfl rfl ?_; refine hx_plain rfl ?_; refine h_assign rfl rfl rfl rfl ?_; refine hx_nil ?_)
    refine hq_round (i + 1, (an, (acc ++ itB ⟨k, x, s, ⟨sa, ds.length, sc⟩⟩ ds).length, cn), vm') (by show items.length - (i + 1) < items.length - i; omega) ⟨by show i + 1 ≤ items.length; omega, by show (acc ++ itB ⟨k, x, s, ⟨sa, ds.length, sc⟩⟩ ds).length = (bs ++ allB (items.take (i + 1))).length; rw [hnx, hacc]⟩ (.cons rfl (.cons rfl (.cons rfl (.cons rfl .nil)))) (fun _ h => ?_)
    show St w nowhere [RowV byteE 5 (.slice an (acc ++ itB ⟨k, x, s, ⟨sa, ds.length, sc⟩⟩ ds).length cn) (bs ++ allB (items.take (i + 1))), RowV byteE 5 vm' (bs ++ allB (items.take (i + 1)))] _
    rw [hnx, hacc]
    exact h.sub (.cons (.tail (.tail (.tail .head))) (.cons (.tail (.tail .head)) .nil))
  · rintro ⟨⟩ _
    (refine hq_exit_block ?_; refine hq_then ?_; refine hc_seq ?_; refine hc_lex ?_; refine hx_plain rfl ?_; refine h_assign rfl rfl rfl rfl ?_; refine hx_nil ?_; refine hq_then ?_; refine hc_ret ?_)
    exact hq_ret1 (.inr rfl) rfl rfl ⟨rfl, rfl⟩ (fun _ h => h)
end Go.Proofs.YtjnnlfeohbidhaaDoor
