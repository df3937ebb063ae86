import Derived.Test.YtjnnlfeohbidhaaDoorL6
import Derived.Test.YtjnnlfeohbidhaaDoorArg
namespace Go.Proofs.YtjnnlfeohbidhaaDoor
open Go Go.Proofs Go.RowKit
set_option maxRecDepth 4000

/-- A field that can be read back. -/
structure ItOK (w : World) (q : ItM × List Int) : Prop where
  r : ItR w q.1 q.2
  k : 1 ≤ q.1.k ∧ q.1.k ≤ 5
  x : 0 ≤ q.1.x
  x1 : q.1.k = 1 → q.1.x < 4294967296
  len : q.2.length ≤ 1048576
theorem ItR.slen {w : World} {t : ItM} {ds : List Int} (h : ItR w t ds) : t.sl.len = ds.length := by
  obtain ⟨a, c, e, _⟩ := h.rd
  exact (Value.slice.inj e).2.1
set_option maxHeartbeats 4000000 in
theorem fit_makes {w1 w0 : World} {v : Value} (items : List (ItM × List Int)) (h1 : Rd itE w1 v (items.map (·.1))) (hi : ∀ q ∈ items, ItR w0 q.1 q.2) :
    Makes Tryd.prog 23 [v] w1 (fun u M => ∃ ls : List (ItM × List Int), (∀ q ∈ ls, ItOK w0 q) ∧ ls.length ≤ 200 ∧ M = [RowV itE 28 u (ls.map (·.1))]) := by
  obtain ⟨a1, c1, rfl, l1, m1, k1⟩ := h1
  unfold maxLen at m1
  refine makes_of Tryd.func23 rfl rfl (Nat.le_of_ble_eq_true rfl) ?_
  (refine hc_seq ?_; refine hc_lex ?_; refine hx_plain rfl ?_; refine h_assign rfl rfl rfl rfl ?_; refine hx_nil ?_; refine hq_then ?_; refine hc_seq ?_; refine hc_lex ?_; refine hx_plain rfl ?_; refine h_assign rfl rfl rfl rfl ?_; refine hx_nil ?_; refine hq_then ?_; refine hc_seq ?_; refine hc_seq ?_; refine hc_lex ?_; refine hx_plain rfl ?_; refine h_assign rfl rfl rfl rfl ?_; refine hx_nil ?_; refine hq_then ?_; refine hc_block ?_)
  refine hc_cut (id := 0) (Y := Value × List (ItM × List Int)) (fun y => [(3, y.1)]) (fun y => [RowV itE 28 y.1 (y.2.map (·.1))]) (fun y => (∀ q ∈ y.2, ItOK w0 q) ∧ y.2.length ≤ 200) ?_ ?_
  · refine hc_loop (X := Nat × Value × List (ItM × List Int)) (fun x => [(0, .slice a1 (items.map (·.1)).length c1), (3, x.2.1), (4, .int .i64 (x.1 : Int))]) (fun x => [RowV itE 28 x.2.1 (x.2.2.map (·.1))]) (fun x => x.1 ≤ items.length ∧ (∀ q ∈ x.2.2, ItOK w0 q) ∧ x.2.2.length ≤ 200) (fun x => items.length - x.1) (0, .slice none 0 0, []) (.cons rfl (.cons rfl (.cons rfl .nil))) ⟨Nat.zero_le _, (fun q hq => by cases hq), by decide⟩ (fun _ h => St.rowV_nil h) ?_
    rintro ⟨i, va, ls⟩ ⟨hi0, hok, hl⟩
    dsimp only at hi0 hok hl ⊢
    have hml : (items.map (·.1)).length = items.length := List.length_map ..
    have hml2 : (ls.map (·.1)).length = ls.length := List.length_map ..
    by_cases hlt : i < items.length
    case neg =>
      (refine hc_seq ?_; refine hc_seq ?_; refine hc_lex ?_; refine hx_plain rfl ?_; refine h_move rfl rfl rfl rfl ?_; refine hx_plain rfl ?_; refine h_move rfl rfl rfl rfl ?_; refine hx_plain rfl ?_; refine h_len_slice rfl rfl rfl UC.out rfl rfl rfl ?_; refine hx_plain rfl ?_; refine h_cmp rfl rfl rfl rfl rfl rfl ?_; refine hx_plain rfl ?_; refine h_move rfl rfl rfl rfl ?_; refine hx_gF rfl rfl rfl (by omega) ?_; refine hx_skip rfl rfl rfl rfl rfl rfl ?_; refine hx_skip rfl rfl rfl rfl rfl rfl ?_; refine hx_skip rfl rfl rfl rfl rfl rfl ?_; refine hx_plain rfl ?_; refine h_pickF rfl rfl rfl rfl rfl ?_; refine hx_nil ?_; refine hq_then ?_; refine hc_condF rfl ?_; refine hc_exit ?_; refine hq_exit_then ?_; refine hq_exit_then ?_)
      exact hq_cut (va, ls) ⟨hok, hl⟩ (.cons rfl .nil) (fun _ h => h)
    have hps : items.map (·.1) ≠ [] := by
      intro e
      have := congrArg List.length e
      rw [hml, List.length_nil] at this
      omega
    obtain ⟨g1, o1, rfl, r1⟩ := k1.resolve_left hps
    obtain ⟨⟨t, ds⟩, hq⟩ : ∃ q, items[i]? = some q := ⟨_, List.getElem?_eq_getElem hlt⟩
    have e1 : (items.map (·.1))[((i : Nat) : Int).toNat]? = some t := by
      rw [List.getElem?_map, show ((i : Nat) : Int).toNat = i by omega, hq]
      rfl
    have hr : ItR w0 t ds := hi _ (List.mem_of_getElem? hq)
    have hsl := hr.slen
    have hx := hr.x
    refine hc_seq ?_
    refine hc_seq ?_
    refine hc_lex ?_
    refine hx_plain rfl ?_
    refine h_move rfl rfl rfl rfl ?_
    refine hx_plain rfl ?_
    refine h_move rfl rfl rfl rfl ?_
    refine hx_plain rfl ?_
    refine h_len_slice rfl rfl rfl UC.out rfl rfl rfl ?_
    (refine hx_plain rfl ?_; refine h_cmp rfl rfl rfl rfl rfl rfl ?_; refine hx_plain rfl ?_; refine h_move rfl rfl rfl rfl ?_; refine hx_gT rfl rfl rfl (by omega) ?_; refine hx_yes rfl rfl rfl ?_; refine h_move rfl rfl rfl rfl ?_; refine hx_yes rfl rfl rfl ?_)
    refine h_lenV rfl rfl .head rfl UC.out rfl rfl rfl ?_
    rw [hml2]
    by_cases hful : ls.length < 200
    case neg =>
      (refine hx_yes rfl rfl rfl ?_; refine h_cmp rfl rfl rfl rfl rfl rfl ?_; refine hx_plain rfl ?_; refine h_pickT rfl rfl rfl rfl rfl ?_; refine hx_nil ?_; refine hq_then ?_; refine hc_condDF rfl (by omega) ?_; refine hc_exit ?_; refine hq_exit_then ?_; refine hq_exit_then ?_)
      exact hq_cut (va, ls) ⟨hok, hl⟩ (.cons rfl .nil) (fun _ h => h)
    (refine hx_yes rfl rfl rfl ?_; refine h_cmp rfl rfl rfl rfl rfl rfl ?_; refine hx_plain rfl ?_; refine h_pickT rfl rfl rfl rfl rfl ?_; refine hx_nil ?_; refine hq_then ?_)
    refine hc_condDT rfl (by omega) ?_
    refine hc_skip ?_
    refine hq_then ?_
    by_cases c1 : t.k < 1
    · (refine hc_seq ?_; refine hc_block ?_; refine hc_seq ?_; refine hc_lex ?_; refine hx_plain rfl ?_; refine h_move rfl rfl rfl rfl ?_; refine hx_plain rfl ?_; refine h_move rfl rfl rfl rfl ?_; refine hx_plain rfl ?_; refine h_indexAddr rfl rfl rfl UC.out IC.size (by omega) (by omega) rfl rfl ?_; refine hx_plain rfl ?_; refine h_rdLoadN rfl r1 rfl UC.out rfl IC.size (by with_reducible assumption) rfl rfl rfl ?_; refine hx_plain rfl ?_; (refine h_alloc rfl rfl IC.zero rfl rfl rfl (fun _ => ?_)); refine hx_plain rfl ?_; refine h_storeAll rfl rfl rfl rfl rfl rfl IC.size .head rfl rfl rfl (List.all_eq_true.1 rfl) ?_; refine hx_nil ?_; refine hq_then ?_; refine hc_seq ?_; refine hc_seq ?_; refine hc_lex ?_; refine hx_plain rfl ?_; refine h_fieldAddr0 rfl rfl FC.out rfl rfl ?_; refine hx_plain rfl ?_; refine h_load rfl rfl UC.out rfl .head rfl rfl rfl ?_; refine hx_plain rfl ?_; refine h_cmp rfl rfl rfl rfl rfl rfl ?_; refine hx_plain rfl ?_; refine h_move rfl rfl rfl rfl ?_; refine hx_gT rfl rfl rfl (by omega) ?_; refine hx_skip rfl rfl rfl rfl rfl rfl ?_; refine hx_skip rfl rfl rfl rfl rfl rfl ?_; refine hx_skip rfl rfl rfl rfl rfl rfl ?_; refine hx_plain rfl ?_; refine h_pickT rfl rfl rfl rfl rfl ?_; refine hx_plain rfl ?_; refine h_move rfl rfl rfl rfl ?_; refine hx_skip rfl rfl rfl rfl rfl rfl ?_; refine hx_skip rfl rfl rfl rfl rfl rfl ?_; refine hx_skip rfl rfl rfl rfl rfl rfl ?_; refine hx_plain rfl ?_; refine h_pickT rfl rfl rfl rfl rfl ?_; refine hx_plain rfl ?_; refine h_move rfl rfl rfl rfl ?_; refine hx_skip rfl rfl rfl rfl rfl rfl ?_; refine hx_skip rfl rfl rfl rfl rfl rfl ?_; refine hx_skip rfl rfl rfl rfl rfl rfl ?_; refine hx_skip rfl rfl rfl rfl rfl rfl ?_; refine hx_plain rfl ?_; refine h_pickT rfl rfl rfl rfl rfl ?_; refine hx_nil ?_; refine hq_then ?_; refine hc_condT rfl ?_; refine hc_exit ?_; refine hq_exit_then ?_; refine hq_exit_block ?_; refine hq_then ?_; refine hc_lex ?_; refine hx_plain rfl ?_; refine h_move rfl rfl rfl rfl ?_; refine hx_plain rfl ?_; refine h_arithI rfl rfl rfl rfl (by omega) rfl rfl ?_; refine hx_plain rfl ?_; refine h_assign rfl rfl rfl rfl ?_; refine hx_nil ?_)
      exact hq_round (i + 1, va, ls) (by show items.length - (i + 1) < items.length - i; omega) ⟨by show i + 1 ≤ _; omega, hok, hl⟩ (.cons rfl (.cons rfl (.cons rfl .nil))) (fun _ h => h.sub (.cons (.tail .head) .nil))
    by_cases c2 : t.k > 5
    · (refine hc_seq ?_; refine hc_block ?_; refine hc_seq ?_; refine hc_lex ?_; refine hx_plain rfl ?_; refine h_move rfl rfl rfl rfl ?_; refine hx_plain rfl ?_; refine h_move rfl rfl rfl rfl ?_; refine hx_plain rfl ?_; refine h_indexAddr rfl rfl rfl UC.out IC.size (by omega) (by omega) rfl rfl ?_; refine hx_plain rfl ?_; refine h_rdLoadN rfl r1 rfl UC.out rfl IC.size (by with_reducible assumption) rfl rfl rfl ?_; refine hx_plain rfl ?_; (refine h_alloc rfl rfl IC.zero rfl rfl rfl (fun _ => ?_)); refine hx_plain rfl ?_; refine h_storeAll rfl rfl rfl rfl rfl rfl IC.size .head rfl rfl rfl (List.all_eq_true.1 rfl) ?_; refine hx_nil ?_; refine hq_then ?_; refine hc_seq ?_; refine hc_seq ?_; refine hc_lex ?_; refine hx_plain rfl ?_; refine h_fieldAddr0 rfl rfl FC.out rfl rfl ?_; refine hx_plain rfl ?_; refine h_load rfl rfl UC.out rfl .head rfl rfl rfl ?_; refine hx_plain rfl ?_; refine h_cmp rfl rfl rfl rfl rfl rfl ?_; refine hx_plain rfl ?_; refine h_move rfl rfl rfl rfl ?_; refine hx_gF rfl rfl rfl (by omega) ?_; refine hx_yes rfl rfl rfl ?_; refine h_fieldAddr0 rfl rfl FC.out rfl rfl ?_; refine hx_yes rfl rfl rfl ?_; refine h_load rfl rfl UC.out rfl .head rfl rfl rfl ?_; refine hx_yes rfl rfl rfl ?_; refine h_cmp rfl rfl rfl rfl rfl rfl ?_; refine hx_plain rfl ?_; refine h_pickF rfl rfl rfl rfl rfl ?_; refine hx_plain rfl ?_; refine h_move rfl rfl rfl rfl ?_; refine hx_gT rfl rfl rfl (by omega) ?_; refine hx_skip rfl rfl rfl rfl rfl rfl ?_; refine hx_skip rfl rfl rfl rfl rfl rfl ?_; refine hx_skip rfl rfl rfl rfl rfl rfl ?_; refine hx_plain rfl ?_; refine h_pickT rfl rfl rfl rfl rfl ?_; refine hx_plain rfl ?_; refine h_move rfl rfl rfl rfl ?_; refine hx_skip rfl rfl rfl rfl rfl rfl ?_; refine hx_skip rfl rfl rfl rfl rfl rfl ?_; refine hx_skip rfl rfl rfl rfl rfl rfl ?_; refine hx_skip rfl rfl rfl rfl rfl rfl ?_; refine hx_plain rfl ?_; refine h_pickT rfl rfl rfl rfl rfl ?_; refine hx_nil ?_; refine hq_then ?_; refine hc_condT rfl ?_; refine hc_exit ?_; refine hq_exit_then ?_; refine hq_exit_block ?_; refine hq_then ?_; refine hc_lex ?_; refine hx_plain rfl ?_; refine h_move rfl rfl rfl rfl ?_; refine hx_plain rfl ?_; refine h_arithI rfl rfl rfl rfl (by omega) rfl rfl ?_; refine hx_plain rfl ?_; refine h_assign rfl rfl rfl rfl ?_; refine hx_nil ?_)
      exact hq_round (i + 1, va, ls) (by show items.length - (i + 1) < items.length - i; omega) ⟨by show i + 1 ≤ _; omega, hok, hl⟩ (.cons rfl (.cons rfl (.cons rfl .nil))) (fun _ h => h.sub (.cons (.tail .head) .nil))
    by_cases c3 : t.x < 0
    · (refine hc_seq ?_; refine hc_block ?_; refine hc_seq ?_; refine hc_lex ?_; refine hx_plain rfl ?_; refine h_move rfl rfl rfl rfl ?_; refine hx_plain rfl ?_; refine h_move rfl rfl rfl rfl ?_; refine hx_plain rfl ?_; refine h_indexAddr rfl rfl rfl UC.out IC.size (by omega) (by omega) rfl rfl ?_; refine hx_plain rfl ?_; refine h_rdLoadN rfl r1 rfl UC.out rfl IC.size (by with_reducible assumption) rfl rfl rfl ?_; refine hx_plain rfl ?_; (refine h_alloc rfl rfl IC.zero rfl rfl rfl (fun _ => ?_)); refine hx_plain rfl ?_; refine h_storeAll rfl rfl rfl rfl rfl rfl IC.size .head rfl rfl rfl (List.all_eq_true.1 rfl) ?_; refine hx_nil ?_; refine hq_then ?_; refine hc_seq ?_; refine hc_seq ?_; refine hc_lex ?_; refine hx_plain rfl ?_; refine h_fieldAddr0 rfl rfl FC.out rfl rfl ?_; refine hx_plain rfl ?_; refine h_load rfl rfl UC.out rfl .head rfl rfl rfl ?_; refine hx_plain rfl ?_; refine h_cmp rfl rfl rfl rfl rfl rfl ?_; refine hx_plain rfl ?_; refine h_move rfl rfl rfl rfl ?_; refine hx_gF rfl rfl rfl (by omega) ?_; refine hx_yes rfl rfl rfl ?_; refine h_fieldAddr0 rfl rfl FC.out rfl rfl ?_; refine hx_yes rfl rfl rfl ?_; refine h_load rfl rfl UC.out rfl .head rfl rfl rfl ?_; refine hx_yes rfl rfl rfl ?_; refine h_cmp rfl rfl rfl rfl rfl rfl ?_; refine hx_plain rfl ?_; refine h_pickF rfl rfl rfl rfl rfl ?_; refine hx_plain rfl ?_; refine h_move rfl rfl rfl rfl ?_; refine hx_gF rfl rfl rfl (by omega) ?_; refine hx_yes rfl rfl rfl ?_; refine h_fieldAddr0 rfl rfl FC.out rfl rfl ?_; refine hx_yes rfl rfl rfl ?_; refine h_load rfl rfl UC.out rfl .head rfl rfl rfl ?_; refine hx_yes rfl rfl rfl ?_; refine h_cmp rfl rfl rfl rfl rfl rfl ?_; refine hx_plain rfl ?_; refine h_pickF rfl rfl rfl rfl rfl ?_; refine hx_plain rfl ?_; refine h_move rfl rfl rfl rfl ?_; refine hx_gT rfl rfl rfl (by omega) ?_; refine hx_skip rfl rfl rfl rfl rfl rfl ?_; refine hx_skip rfl rfl rfl rfl rfl rfl ?_; refine hx_skip rfl rfl rfl rfl rfl rfl ?_; refine hx_skip rfl rfl rfl rfl rfl rfl ?_; refine hx_plain rfl ?_; refine h_pickT rfl rfl rfl rfl rfl ?_; refine hx_nil ?_; refine hq_then ?_; refine hc_condT rfl ?_; refine hc_exit ?_; refine hq_exit_then ?_; refine hq_exit_block ?_; refine hq_then ?_; refine hc_lex ?_; refine hx_plain rfl ?_; refine h_move rfl rfl rfl rfl ?_; refine hx_plain rfl ?_; refine h_arithI rfl rfl rfl rfl (by omega) rfl rfl ?_; refine hx_plain rfl ?_; refine h_assign rfl rfl rfl rfl ?_; refine hx_nil ?_)
      exact hq_round (i + 1, va, ls) (by show items.length - (i + 1) < items.length - i; omega) ⟨by show i + 1 ≤ _; omega, hok, hl⟩ (.cons rfl (.cons rfl (.cons rfl .nil))) (fun _ h => h.sub (.cons (.tail .head) .nil))
    by_cases c4 : t.sl.len > 1048576
    · (refine hc_seq ?_; refine hc_block ?_; refine hc_seq ?_; refine hc_lex ?_; refine hx_plain rfl ?_; refine h_move rfl rfl rfl rfl ?_; refine hx_plain rfl ?_; refine h_move rfl rfl rfl rfl ?_; refine hx_plain rfl ?_; refine h_indexAddr rfl rfl rfl UC.out IC.size (by omega) (by omega) rfl rfl ?_; refine hx_plain rfl ?_; refine h_rdLoadN rfl r1 rfl UC.out rfl IC.size (by with_reducible assumption) rfl rfl rfl ?_; refine hx_plain rfl ?_; (refine h_alloc rfl rfl IC.zero rfl rfl rfl (fun _ => ?_)); refine hx_plain rfl ?_; refine h_storeAll rfl rfl rfl rfl rfl rfl IC.size .head rfl rfl rfl (List.all_eq_true.1 rfl) ?_; refine hx_nil ?_; refine hq_then ?_; refine hc_seq ?_; refine hc_seq ?_; refine hc_lex ?_; refine hx_plain rfl ?_; refine h_fieldAddr0 rfl rfl FC.out rfl rfl ?_; refine hx_plain rfl ?_; refine h_load rfl rfl UC.out rfl .head rfl rfl rfl ?_; refine hx_plain rfl ?_; refine h_cmp rfl rfl rfl rfl rfl rfl ?_; refine hx_plain rfl ?_; refine h_move rfl rfl rfl rfl ?_; refine hx_gF rfl rfl rfl (by omega) ?_; refine hx_yes rfl rfl rfl ?_; refine h_fieldAddr0 rfl rfl FC.out rfl rfl ?_; refine hx_yes rfl rfl rfl ?_; refine h_load rfl rfl UC.out rfl .head rfl rfl rfl ?_; refine hx_yes rfl rfl rfl ?_; refine h_cmp rfl rfl rfl rfl rfl rfl ?_; refine hx_plain rfl ?_; refine h_pickF rfl rfl rfl rfl rfl ?_; refine hx_plain rfl ?_; refine h_move rfl rfl rfl rfl ?_; refine hx_gF rfl rfl rfl (by omega) ?_; refine hx_yes rfl rfl rfl ?_; refine h_fieldAddr0 rfl rfl FC.out rfl rfl ?_; refine hx_yes rfl rfl rfl ?_; refine h_load rfl rfl UC.out rfl .head rfl rfl rfl ?_; refine hx_yes rfl rfl rfl ?_; refine h_cmp rfl rfl rfl rfl rfl rfl ?_; refine hx_plain rfl ?_; refine h_pickF rfl rfl rfl rfl rfl ?_; refine hx_plain rfl ?_; refine h_move rfl rfl rfl rfl ?_; refine hx_gF rfl rfl rfl (by omega) ?_; refine hx_yes rfl rfl rfl ?_; refine h_fieldAddr0 rfl rfl FC.out rfl rfl ?_; refine hx_yes rfl rfl rfl ?_; refine h_load rfl rfl UC.out rfl .head rfl rfl rfl ?_; refine hx_yes rfl rfl rfl ?_; refine h_len_slice rfl rfl rfl UC.out rfl rfl rfl ?_; refine hx_yes rfl rfl rfl ?_; refine h_cmp rfl rfl rfl rfl rfl rfl ?_; refine hx_plain rfl ?_; refine h_pickF rfl rfl rfl rfl rfl ?_; refine hx_nil ?_; refine hq_then ?_; refine hc_condDT rfl (by omega) ?_; refine hc_exit ?_; refine hq_exit_then ?_; refine hq_exit_block ?_; refine hq_then ?_; refine hc_lex ?_; refine hx_plain rfl ?_; refine h_move rfl rfl rfl rfl ?_; refine hx_plain rfl ?_; refine h_arithI rfl rfl rfl rfl (by omega) rfl rfl ?_; refine hx_plain rfl ?_; refine h_assign rfl rfl rfl rfl ?_; refine hx_nil ?_)
      exact hq_round (i + 1, va, ls) (by show items.length - (i + 1) < items.length - i; omega) ⟨by show i + 1 ≤ _; omega, hok, hl⟩ (.cons rfl (.cons rfl (.cons rfl .nil))) (fun _ h => h.sub (.cons (.tail .head) .nil))
    by_cases c5 : t.k = 1
    · (refine hc_seq ?_; refine hc_block ?_; refine hc_seq ?_; refine hc_lex ?_; refine hx_plain rfl ?_; refine h_move rfl rfl rfl rfl ?_; refine hx_plain rfl ?_; refine h_move rfl rfl rfl rfl ?_; refine hx_plain rfl ?_; refine h_indexAddr rfl rfl rfl UC.out IC.size (by omega) (by omega) rfl rfl ?_; refine hx_plain rfl ?_; refine h_rdLoadN rfl r1 rfl UC.out rfl IC.size (by with_reducible assumption) rfl rfl rfl ?_; refine hx_plain rfl ?_; (refine h_alloc rfl rfl IC.zero rfl rfl rfl (fun _ => ?_)); refine hx_plain rfl ?_; refine h_storeAll rfl rfl rfl rfl rfl rfl IC.size .head rfl rfl rfl (List.all_eq_true.1 rfl) ?_; refine hx_nil ?_; refine hq_then ?_; refine hc_seq ?_; refine hc_seq ?_; refine hc_lex ?_; refine hx_plain rfl ?_; refine h_fieldAddr0 rfl rfl FC.out rfl rfl ?_; refine hx_plain rfl ?_; refine h_load rfl rfl UC.out rfl .head rfl rfl rfl ?_; refine hx_plain rfl ?_; refine h_cmp rfl rfl rfl rfl rfl rfl ?_; refine hx_plain rfl ?_; refine h_move rfl rfl rfl rfl ?_; refine hx_gF rfl rfl rfl (by omega) ?_; refine hx_yes rfl rfl rfl ?_; refine h_fieldAddr0 rfl rfl FC.out rfl rfl ?_; refine hx_yes rfl rfl rfl ?_; refine h_load rfl rfl UC.out rfl .head rfl rfl rfl ?_; refine hx_yes rfl rfl rfl ?_; refine h_cmp rfl rfl rfl rfl rfl rfl ?_; refine hx_plain rfl ?_; refine h_pickF rfl rfl rfl rfl rfl ?_; refine hx_plain rfl ?_; refine h_move rfl rfl rfl rfl ?_; refine hx_gF rfl rfl rfl (by omega) ?_; refine hx_yes rfl rfl rfl ?_; refine h_fieldAddr0 rfl rfl FC.out rfl rfl ?_; refine hx_yes rfl rfl rfl ?_; refine h_load rfl rfl UC.out rfl .head rfl rfl rfl ?_; refine hx_yes rfl rfl rfl ?_; refine h_cmp rfl rfl rfl rfl rfl rfl ?_; refine hx_plain rfl ?_; refine h_pickF rfl rfl rfl rfl rfl ?_; refine hx_plain rfl ?_; refine h_move rfl rfl rfl rfl ?_; refine hx_gF rfl rfl rfl (by omega) ?_; refine hx_yes rfl rfl rfl ?_; refine h_fieldAddr0 rfl rfl FC.out rfl rfl ?_; refine hx_yes rfl rfl rfl ?_; refine h_load rfl rfl UC.out rfl .head rfl rfl rfl ?_; refine hx_yes rfl rfl rfl ?_; refine h_len_slice rfl rfl rfl UC.out rfl rfl rfl ?_; refine hx_yes rfl rfl rfl ?_; refine h_cmp rfl rfl rfl rfl rfl rfl ?_; refine hx_plain rfl ?_; refine h_pickF rfl rfl rfl rfl rfl ?_; refine hx_nil ?_; refine hq_then ?_; refine hc_condDF rfl (by omega) ?_; refine hc_skip ?_; refine hq_then ?_; refine hc_seq ?_; refine hc_seq ?_; refine hc_lex ?_; refine hx_plain rfl ?_; refine h_fieldAddr0 rfl rfl FC.out rfl rfl ?_; refine hx_plain rfl ?_; refine h_load rfl rfl UC.out rfl .head rfl rfl rfl ?_; refine hx_plain rfl ?_; refine h_cmp rfl rfl rfl rfl rfl rfl ?_; refine hx_nil ?_; refine hq_then ?_; refine hc_condDT rfl (by omega) ?_; refine hc_lex ?_; refine hx_plain rfl ?_; refine h_fieldAddr0 rfl rfl FC.out rfl rfl ?_; refine hx_plain rfl ?_; refine h_load rfl rfl UC.out rfl .head rfl rfl rfl ?_; refine hx_plain rfl ?_; refine h_remI rfl rfl rfl (by omega) rfl rfl ?_; refine hx_plain rfl ?_; refine h_fieldAddr0 rfl rfl FC.out rfl rfl ?_; refine hx_plain rfl ?_; refine h_store1 rfl rfl rfl rfl rfl rfl IC.size .head rfl rfl rfl ?_; refine hx_nil ?_; refine hq_then ?_; refine hc_lex ?_; refine hx_plain rfl ?_; refine h_move rfl rfl rfl rfl ?_; refine hx_plain rfl ?_; refine h_loadP rfl rfl UC.out rfl IC.size .head rfl rfl rfl rfl ?_; refine hx_plain rfl ?_; (refine h_buildSlice rfl rfl rfl UC.out IC.size IC.zero rfl rfl (by intro v hv; simp at hv; first | (subst hv; rfl) | (rcases hv with rfl | rfl <;> rfl) | (rcases hv with rfl | rfl | rfl <;> rfl)) (by omega) rfl rfl (fun _ => ?_)); refine hx_plain rfl ?_)
      rename_i b5 b6
      refine h_append (m := 1) (E := itE) (T := 28) (xs := ls.map (·.1)) (ys := [⟨t.k, t.x % 4294967296, t.s, t.sl⟩]) rfl rfl rfl rfl rfl UC.out IC.out rfl (.cons (.tail (.tail .head)) (.cons .head .nil)) rfl (one_row itE ⟨t.k, t.x % 4294967296, t.s, t.sl⟩) (by unfold maxLen; omega) (by omega) rfl rfl (fun v' _ => ?_)
      (refine hx_plain rfl ?_; refine h_assign rfl rfl rfl rfl ?_; refine hx_nil ?_; refine hq_norm_block ?_; refine hq_then ?_; refine hc_lex ?_; refine hx_plain rfl ?_; refine h_move rfl rfl rfl rfl ?_; refine hx_plain rfl ?_; refine h_arithI rfl rfl rfl rfl (by omega) rfl rfl ?_; refine hx_plain rfl ?_; refine h_assign rfl rfl rfl rfl ?_; refine hx_nil ?_)
      refine hq_round (i + 1, v', ls ++ [(⟨t.k, t.x % 4294967296, t.s, t.sl⟩, ds)]) (by show items.length - (i + 1) < items.length - i; omega) ⟨by show i + 1 ≤ _; omega, fun q hq => ?_, by show (ls ++ [_]).length ≤ 200; rw [List.length_append, List.length_singleton]; omega⟩ (.cons rfl (.cons rfl (.cons rfl .nil))) (fun _ h => ?_)
      · rcases List.mem_append.1 hq with hq | hq
        · exact hok q hq
        · rw [List.mem_singleton.1 hq]
          exact ⟨⟨hr.rd, hr.byts, by show _ ≤ t.x % 4294967296 ∧ t.x % 4294967296 ≤ _; omega, hr.s⟩, ⟨by show 1 ≤ t.k; omega, by show t.k ≤ 5; omega⟩, by show 0 ≤ t.x % 4294967296; omega, fun _ => by show t.x % 4294967296 < _; omega, by show ds.length ≤ _; omega⟩
      · show St w1 nowhere [RowV itE 28 v' ((ls ++ [_]).map (fun q : ItM × List Int => q.1))] _
        rw [List.map_append]
        exact h.sub (.cons .head .nil)
    · (refine hc_seq ?_; refine hc_block ?_; refine hc_seq ?_; refine hc_lex ?_; refine hx_plain rfl ?_; refine h_move rfl rfl rfl rfl ?_; refine hx_plain rfl ?_; refine h_move rfl rfl rfl rfl ?_; refine hx_plain rfl ?_; refine h_indexAddr rfl rfl rfl UC.out IC.size (by omega) (by omega) rfl rfl ?_; refine hx_plain rfl ?_; refine h_rdLoadN rfl r1 rfl UC.out rfl IC.size (by with_reducible assumption) rfl rfl rfl ?_; refine hx_plain rfl ?_; (refine h_alloc rfl rfl IC.zero rfl rfl rfl (fun _ => ?_)); refine hx_plain rfl ?_; refine h_storeAll rfl rfl rfl rfl rfl rfl IC.size .head rfl rfl rfl (List.all_eq_true.1 rfl) ?_; refine hx_nil ?_; refine hq_then ?_; refine hc_seq ?_; refine hc_seq ?_; refine hc_lex ?_; refine hx_plain rfl ?_; refine h_fieldAddr0 rfl rfl FC.out rfl rfl ?_; refine hx_plain rfl ?_; refine h_load rfl rfl UC.out rfl .head rfl rfl rfl ?_; refine hx_plain rfl ?_; refine h_cmp rfl rfl rfl rfl rfl rfl ?_; refine hx_plain rfl ?_; refine h_move rfl rfl rfl rfl ?_; refine hx_gF rfl rfl rfl (by omega) ?_; refine hx_yes rfl rfl rfl ?_; refine h_fieldAddr0 rfl rfl FC.out rfl rfl ?_; refine hx_yes rfl rfl rfl ?_; refine h_load rfl rfl UC.out rfl .head rfl rfl rfl ?_; refine hx_yes rfl rfl rfl ?_; refine h_cmp rfl rfl rfl rfl rfl rfl ?_; refine hx_plain rfl ?_; refine h_pickF rfl rfl rfl rfl rfl ?_; refine hx_plain rfl ?_; refine h_move rfl rfl rfl rfl ?_; refine hx_gF rfl rfl rfl (by omega) ?_; refine hx_yes rfl rfl rfl ?_; refine h_fieldAddr0 rfl rfl FC.out rfl rfl ?_; refine hx_yes rfl rfl rfl ?_; refine h_load rfl rfl UC.out rfl .head rfl rfl rfl ?_; refine hx_yes rfl rfl rfl ?_; refine h_cmp rfl rfl rfl rfl rfl rfl ?_; refine hx_plain rfl ?_; refine h_pickF rfl rfl rfl rfl rfl ?_; refine hx_plain rfl ?_; refine h_move rfl rfl rfl rfl ?_; refine hx_gF rfl rfl rfl (by omega) ?_; refine hx_yes rfl rfl rfl ?_; refine h_fieldAddr0 rfl rfl FC.out rfl rfl ?_; refine hx_yes rfl rfl rfl ?_; refine h_load rfl rfl UC.out rfl .head rfl rfl rfl ?_; refine hx_yes rfl rfl rfl ?_; refine h_len_slice rfl rfl rfl UC.out rfl rfl rfl ?_; refine hx_yes rfl rfl rfl ?_; refine h_cmp rfl rfl rfl rfl rfl rfl ?_; refine hx_plain rfl ?_; refine h_pickF rfl rfl rfl rfl rfl ?_; refine hx_nil ?_; refine hq_then ?_; refine hc_condDF rfl (by omega) ?_; refine hc_skip ?_; refine hq_then ?_; refine hc_seq ?_; refine hc_seq ?_; refine hc_lex ?_; refine hx_plain rfl ?_; refine h_fieldAddr0 rfl rfl FC.out rfl rfl ?_; refine hx_plain rfl ?_; refine h_load rfl rfl UC.out rfl .head rfl rfl rfl ?_; refine hx_plain rfl ?_; refine h_cmp rfl rfl rfl rfl rfl rfl ?_; refine hx_nil ?_; refine hq_then ?_; refine hc_condDF rfl (by omega) ?_; refine hc_skip ?_; refine hq_then ?_; refine hc_lex ?_; refine hx_plain rfl ?_; refine h_move rfl rfl rfl rfl ?_; refine hx_plain rfl ?_; refine h_loadP rfl rfl UC.out rfl IC.size .head rfl rfl rfl rfl ?_; refine hx_plain rfl ?_; (refine h_buildSlice rfl rfl rfl UC.out IC.size IC.zero rfl rfl (by intro v hv; simp at hv; first | (subst hv; rfl) | (rcases hv with rfl | rfl <;> rfl) | (rcases hv with rfl | rfl | rfl <;> rfl)) (by omega) rfl rfl (fun _ => ?_)); refine hx_plain rfl ?_)
      rename_i b5 b6
      refine h_append (m := 1) (E := itE) (T := 28) (xs := ls.map (·.1)) (ys := [t]) rfl rfl rfl rfl rfl UC.out IC.out rfl (.cons (.tail (.tail .head)) (.cons .head .nil)) rfl (one_row itE t) (by unfold maxLen; omega) (by omega) rfl rfl (fun v' _ => ?_)
      (refine hx_plain rfl ?_; refine h_assign rfl rfl rfl rfl ?_; refine hx_nil ?_; refine hq_norm_block ?_; refine hq_then ?_; refine hc_lex ?_; refine hx_plain rfl ?_; refine h_move rfl rfl rfl rfl ?_; refine hx_plain rfl ?_; refine h_arithI rfl rfl rfl rfl (by omega) rfl rfl ?_; refine hx_plain rfl ?_; refine h_assign rfl rfl rfl rfl ?_; refine hx_nil ?_)
      refine hq_round (i + 1, v', ls ++ [(t, ds)]) (by show items.length - (i + 1) < items.length - i; omega) ⟨by show i + 1 ≤ _; omega, fun q hq => ?_, by show (ls ++ [_]).length ≤ 200; rw [List.length_append, List.length_singleton]; omega⟩ (.cons rfl (.cons rfl (.cons rfl .nil))) (fun _ h => ?_)
      · rcases List.mem_append.1 hq with hq | hq
        · exact hok q hq
        · rw [List.mem_singleton.1 hq]
          exact ⟨hr, ⟨by show 1 ≤ t.k; omega, by show t.k ≤ 5; omega⟩, by show 0 ≤ t.x; omega, fun h => absurd h c5, by show ds.length ≤ _; omega⟩
      · show St w1 nowhere [RowV itE 28 v' ((ls ++ [_]).map (fun q : ItM × List Int => q.1))] _
        rw [List.map_append]
        exact h.sub (.cons .head .nil)
  · rintro ⟨va, ls⟩ ⟨hok, hl⟩
    (refine hq_exit_block ?_; refine hq_then ?_; refine hc_seq ?_; refine hc_lex ?_; refine hx_plain rfl ?_; refine h_move rfl rfl rfl rfl ?_; refine hx_plain rfl ?_; refine h_assign rfl rfl rfl rfl ?_; refine hx_nil ?_; refine hq_then ?_; refine hc_ret ?_)
    exact hq_ret1 (.inr rfl) rfl rfl ⟨ls, hok, hl, rfl⟩ (fun _ h => h)

/-- All fields laid; where each begins. -/
def allB (ls : List (ItM × List Int)) : List Int := ls.flatMap (fun q => itB q.1 q.2)
def froms (ls : List (ItM × List Int)) : List Int := (List.range ls.length).map fun i => ((allB (ls.take i)).length : Int)
theorem allB_succ {ls : List (ItM × List Int)} {i : Nat} (h : i < ls.length) : allB (ls.take (i + 1)) = allB (ls.take i) ++ itB ls[i].1 ls[i].2 := by
  unfold allB
  rw [List.take_succ_eq_append_getElem h, List.flatMap_append]
  simp
theorem allB_len : ∀ (ls : List (ItM × List Int)), (∀ q ∈ ls, q.2.length ≤ 1048576) → (allB ls).length ≤ ls.length * 1048584
  | [], _ => by simp [allB]
  | q :: ls, h => by
    have h1 := allB_len ls (fun x hx => h x (List.mem_cons_of_mem _ hx))
    have h2 := h q (List.mem_cons_self ..)
    have h3 := itB_len q.1 q.2
    unfold allB at *
    rw [List.flatMap_cons, List.length_append, List.length_cons, Nat.add_mul]
    omega
theorem allB_take_len {ls : List (ItM × List Int)} (h : ∀ q ∈ ls, q.2.length ≤ 1048576) (hl : ls.length ≤ 200) (i : Nat) : (allB (ls.take i)).length ≤ 209716800 := by
  have := allB_len (ls.take i) (fun q hq => h q (List.mem_of_mem_take hq))
  have h2 : (ls.take i).length ≤ 200 := by rw [List.length_take]; omega
  have : (ls.take i).length * 1048584 ≤ 200 * 1048584 := Nat.mul_le_mul_right _ h2
  omega
set_option maxHeartbeats 4000000 in
theorem all_makes {w1 : World} {v : Value} (ls : List (ItM × List Int)) (h1 : Rd itE w1 v (ls.map (·.1))) (hi : ∀ q ∈ ls, Rd byteE w1 q.1.sl.v q.2 ∧ Byts q.2 ∧ q.2.length ≤ 1048576) (hl : ls.length ≤ 200) :
    Makes Tryd.prog 24 [v] w1 (fun u M => ∃ vb vf, u = .tuple #[vb, vf] ∧ M = [RowV byteE 5 vb (allB ls), RowV intE 3 vf (froms ls)]) := by
  obtain ⟨a1, c1, rfl, l1, m1, k1⟩ := h1
  unfold maxLen at m1
  have hml : (ls.map (·.1)).length = ls.length := List.length_map ..
  refine makes_of Tryd.func24 rfl rfl (Nat.le_of_ble_eq_true rfl) ?_
  (refine hc_seq ?_; refine hc_lex ?_; refine hx_plain rfl ?_; refine h_assign rfl rfl rfl rfl ?_; refine hx_plain rfl ?_; refine h_assign rfl rfl rfl rfl ?_; refine hx_nil ?_; refine hq_then ?_; refine hc_seq ?_; refine hc_lex ?_; refine hx_plain rfl ?_; refine h_assign rfl rfl rfl rfl ?_; refine hx_nil ?_; refine hq_then ?_; refine hc_seq ?_; refine hc_lex ?_; refine hx_plain rfl ?_; refine h_assign rfl rfl rfl rfl ?_; refine hx_nil ?_; refine hq_then ?_; refine hc_seq ?_; refine hc_seq ?_; refine hc_lex ?_; refine hx_plain rfl ?_; refine h_assign rfl rfl rfl rfl ?_; refine hx_nil ?_; refine hq_then ?_; refine hc_block ?_)
  refine hc_cut (id := 0) (Y := Value × Value) (fun y => [(4, y.1), (5, y.2)]) (fun y => [RowV byteE 5 y.1 (allB ls), RowV intE 3 y.2 (froms ls)]) (fun _ => True) ?_ ?_
  · refine hc_loop (X := Nat × Value × Value) (fun x => [(0, .slice a1 (ls.map (·.1)).length c1), (4, x.2.1), (5, x.2.2), (6, .int .i64 (x.1 : Int))]) (fun x => [RowV byteE 5 x.2.1 (allB (ls.take x.1)), RowV intE 3 x.2.2 (froms (ls.take x.1))]) (fun x => x.1 ≤ ls.length) (fun x => ls.length - x.1) (0, .slice none 0 0, .slice none 0 0) (.cons rfl (.cons rfl (.cons rfl (.cons rfl .nil)))) (Nat.zero_le _) (fun _ h => St.rowV_nil (St.rowV_nil h)) ?_
    rintro ⟨i, vb, vf⟩ hi0
    dsimp only at hi0 ⊢
    by_cases hlt : i < ls.length
    case neg =>
      (refine hc_seq ?_; refine hc_seq ?_; refine hc_lex ?_; refine hx_plain rfl ?_; refine h_move rfl rfl rfl rfl ?_; refine hx_plain rfl ?_; refine h_move rfl rfl rfl rfl ?_; refine hx_plain rfl ?_; refine h_len_slice rfl rfl rfl UC.out rfl rfl rfl ?_; refine hx_plain rfl ?_; refine h_cmp rfl rfl rfl rfl rfl rfl ?_; refine hx_nil ?_; refine hq_then ?_; refine hc_condDF rfl (by omega) ?_; refine hc_exit ?_; refine hq_exit_then ?_; refine hq_exit_then ?_)
      refine hq_cut (vb, vf) trivial (.cons rfl (.cons rfl .nil)) (fun _ h => ?_)
      rw [List.take_of_length_le (by omega)] at h
      exact h
    have hps : ls.map (·.1) ≠ [] := by
      intro e
      have := congrArg List.length e
      rw [hml, List.length_nil] at this
      omega
    obtain ⟨g1, o1, rfl, r1⟩ := k1.resolve_left hps
    obtain ⟨⟨t, ds⟩, hq⟩ : ∃ q, ls[i] = q := ⟨_, rfl⟩
    have e1 : (ls.map (·.1))[((i : Nat) : Int).toNat]? = some t := by
      rw [List.getElem?_map, show ((i : Nat) : Int).toNat = i by omega, List.getElem?_eq_getElem hlt, hq]
      rfl
    obtain ⟨q1, q2, q3⟩ := hi _ (List.getElem_mem hlt)
    rw [hq] at q1 q2 q3
    dsimp only at q1 q2 q3
    have hbl := allB_take_len (fun q hq => (hi q hq).2.2) hl i
    have hfl : (froms (ls.take i)).length = i := by unfold froms; rw [List.length_map, List.length_range, List.length_take]; omega
    (refine hc_seq ?_; refine hc_seq ?_; refine hc_lex ?_; refine hx_plain rfl ?_; refine h_move rfl rfl rfl rfl ?_; refine hx_plain rfl ?_; refine h_move rfl rfl rfl rfl ?_; refine hx_plain rfl ?_; refine h_len_slice rfl rfl rfl UC.out rfl rfl rfl ?_; refine hx_plain rfl ?_; refine h_cmp rfl rfl rfl rfl rfl rfl ?_; refine hx_nil ?_; refine hq_then ?_; refine hc_condDT rfl (by omega) ?_; refine hc_skip ?_; refine hq_then ?_; refine hc_seq ?_; refine hc_block ?_; refine hc_seq ?_; refine hc_lex ?_; refine hx_plain rfl ?_; refine h_move rfl rfl rfl rfl ?_; refine hx_plain rfl ?_; refine h_move rfl rfl rfl rfl ?_; refine hx_plain rfl ?_)
    refine h_lenV rfl rfl .head rfl UC.out rfl rfl rfl ?_
    (refine hx_plain rfl ?_; (refine h_buildSlice rfl rfl rfl UC.out IC.size IC.zero rfl rfl (by intro v hv; simp at hv; first | (subst hv; rfl) | (rcases hv with rfl | rfl <;> rfl) | (rcases hv with rfl | rfl | rfl <;> rfl)) (by omega) rfl rfl (fun _ => ?_)); refine hx_plain rfl ?_)
    refine h_append (m := 1) (E := intE) (T := 3) (xs := froms (ls.take i)) (ys := [((allB (ls.take i)).length : Int)]) rfl rfl rfl rfl rfl UC.out IC.out rfl (.cons (.tail (.tail .head)) (.cons .head .nil)) rfl (one_row intE _) (by unfold maxLen; omega) (by omega) rfl rfl (fun v' _ => ?_)
    (refine hx_plain rfl ?_; refine h_assign rfl rfl rfl rfl ?_; refine hx_nil ?_; refine hq_then ?_; refine hc_lex ?_; refine hx_plain rfl ?_; refine h_move rfl rfl rfl rfl ?_; refine hx_plain rfl ?_; refine h_move rfl rfl rfl rfl ?_; refine hx_plain rfl ?_; refine h_move rfl rfl rfl rfl ?_; refine hx_plain rfl ?_; refine h_indexAddr rfl rfl rfl UC.out IC.size (by omega) (by omega) rfl rfl ?_; refine hx_plain rfl ?_; refine h_rdLoadN rfl r1 rfl UC.out rfl IC.size (by with_reducible assumption) rfl rfl rfl ?_; refine hx_plain rfl ?_)
    refine h_callW (post := fun u M => M = [RowV byteE 5 u (allB (ls.take i) ++ itB t ds)]) rfl rfl rfl rfl rfl rfl rfl rfl EC.out (fun w' h => put_makes t (h.rdRowV (.tail (.tail .head))) (h.rd q1) q2 (by omega)) ?_
    rintro vn M rfl
    (refine hx_plain rfl ?_; refine h_assign rfl rfl rfl rfl ?_; refine hx_nil ?_; refine hq_norm_block ?_; refine hq_then ?_; refine hc_lex ?_; refine hx_plain rfl ?_; refine h_move rfl rfl rfl rfl ?_; refine hx_plain rfl ?_; refine h_arithI rfl rfl rfl rfl (by omega) rfl rfl ?_; refine hx_plain rfl ?_; refine h_assign rfl rfl rfl rfl ?_; refine hx_nil ?_)
    refine hq_round (i + 1, vn, v') (by show ls.length - (i + 1) < ls.length - i; omega) (by show i + 1 ≤ _; omega) (.cons rfl (.cons rfl (.cons rfl (.cons rfl .nil)))) (fun _ h => ?_)
    show St w1 nowhere [RowV byteE 5 vn (allB (ls.take (i + 1))), RowV intE 3 v' (froms (ls.take (i + 1)))] _
    have e2 : allB (ls.take (i + 1)) = allB (ls.take i) ++ itB t ds := by rw [allB_succ hlt, hq]
    have e3 : froms (ls.take (i + 1)) = froms (ls.take i) ++ [((allB (ls.take i)).length : Int)] := by
      unfold froms
      have n1 : (ls.take (i + 1)).length = i + 1 := by rw [List.length_take]; omega
      have n0 : (ls.take i).length = i := by rw [List.length_take]; omega
      rw [n1, n0, List.range_succ, List.map_append]
      congr 1
      · apply List.map_congr_left
        intro j hj
        have hj := List.mem_range.1 hj
        rw [List.take_take, List.take_take, Nat.min_eq_left (by omega), Nat.min_eq_left (by omega)]
      · simp only [List.map_cons, List.map_nil]
        rw [List.take_take, Nat.min_eq_left (by omega)]
    rw [e2, e3]
    exact h.sub (.cons .head (.cons .head .nil))
  · rintro ⟨vb, vf⟩ _
    (refine hq_exit_block ?_; refine hq_then ?_; refine hc_seq ?_; refine hc_lex ?_; refine hx_plain rfl ?_; refine h_move rfl rfl rfl rfl ?_; refine hx_plain rfl ?_; refine h_move rfl rfl rfl rfl ?_; refine hx_plain rfl ?_; refine h_assign rfl rfl rfl rfl ?_; refine hx_plain rfl ?_; refine h_assign rfl rfl rfl rfl ?_; refine hx_nil ?_; refine hq_then ?_; refine hc_ret ?_)
    exact hq_ret2 (.inr rfl) rfl rfl rfl ⟨vb, vf, rfl, rfl⟩ (fun _ h => h)
end Go.Proofs.YtjnnlfeohbidhaaDoor
