import Derived.Test.YtfolhmlldoepfaaGreatDoorGm
import Derived.Test.YtfolhmlldoepfaaGreatDoorGr
import Derived.Test.YtfolhmlldoepfaaGreatDoorGc
set_option linter.unusedVariables false
set_option linter.unusedSimpArgs false
namespace Go.Proofs.YtfolhmlldoepfaaGreatDoor
open Go Go.Proofs Go.RowKit
set_option maxRecDepth 4000
def p32 (x : Int) : List Int := dg (IntKind.u64.wrap x) 4
def p64 (x : Int) : List Int := dg (IntKind.u64.wrap x) 8
theorem p32_len (x : Int) : (p32 x).length = 4 := dg_len _ _
theorem p64_len (x : Int) : (p64 x).length = 8 := dg_len _ _
theorem fieldB_lens (ds : List Int) : ds.length + 4 ≤ (fieldB ds).length ∧ (fieldB ds).length ≤ ds.length + 7 := by
  unfold fieldB
  have := padN_lt ds.length
  rw [List.length_append, List.length_append, dg_len, List.length_replicate]
  omega
def RqF.enc (r : ReqV) (ds : List Int) : RqF → List Int
  | .id => p64 r.id
  | .off => p32 r.off
  | .len _ => p32 r.len
  | .path => fieldB (strBytes r.path)
  | .name _ => fieldB (strBytes r.name)
  | .id2 => p64 r.id2
  | .name2 => fieldB (strBytes r.name2)
  | .data => fieldB ds
/-- How a field is written. -/
def PutQ (w1 : World) (p : Nat) (r : ReqV) (ds bs : List Int) (f : RqF) : Prop := ∃ t v0 fn, rqV p f = .iface t v0 ∧ (∀ w, (Go.method (Tryz.prog.types.size + Made.depth) t v0 "annex/msg.put").run Tryz.prog w = .ok (fn, v0) w) ∧ Enters Tryz.prog fn ∧ ∀ bv, SpecB Tryz.prog w1 fn [v0, bv] [RowV byteE 5 bv bs, rqB p r] (fun u M => M = [RowV byteE 5 u (bs ++ f.enc r ds), rqB p r])
theorem putQ {w1 : World} (p : Nat) (r : ReqV) {ds bs : List Int} (hd : Rd byteE w1 r.dv.v ds) (f : RqF) (hf : (f.enc r ds).length ≤ 100000) (hb : bs.length ≤ 10000000) : PutQ w1 p r ds bs f := by
  obtain ⟨client, seq, ack, epoch, op, id, id2, off, len, path, name, name2, ⟨da, dn, dc⟩⟩ := r
  cases f with
  | id =>
    refine ⟨_, _, 170, rfl, (fun w => by kernel_rfl), EC.out, fun bv => ?_⟩
    refine specB_of Tryz.func170 rfl rfl (Nat.le_of_ble_eq_true rfl) (fun w F hB hF => ?_)
    unfold rqB
    dsimp only [ReqV.cs, SlV.v]
    (refine Zl rfl ?_; (refine h_box rfl rfl rfl rfl rfl rfl (fun _ => ?_)); refine Zn rfl rfl rfl rfl rfl ?_; refine Zw rfl rfl rfl rfl rfl ?_; refine Zf rfl rfl rfl rfl rfl ?_; refine Zh rfl rfl rfl rfl rfl rfl rfl ?_; refine hx_plain rfl ?_; refine h_nilCheck rfl rfl rfl rfl ?_; refine hx_plain rfl ?_; refine h_load rfl rfl UC.out rfl (.tail (.tail .head)) rfl rfl rfl ?_; refine hx_plain rfl ?_)
    refine h_callW rfl rfl rfl rfl rfl rfl rfl rfl EC.out (fun w' h => put64_makes id (h.rdRowV (.tail .head)) (by omega)) ?_
    rintro u M rfl
    (refine Zn rfl rfl rfl rfl rfl ?_; refine hc_ret ?_)
    exact hq_ret1 (.inr rfl) rfl rfl rfl (fun _ h => h.sub (.cons .head (.cons (.tail (.tail .head)) .nil)))
  | off =>
    refine ⟨_, _, 173, rfl, (fun w => by kernel_rfl), EC.out, fun bv => ?_⟩
    refine specB_of Tryz.func173 rfl rfl (Nat.le_of_ble_eq_true rfl) (fun w F hB hF => ?_)
    unfold rqB
    dsimp only [ReqV.cs, SlV.v]
    (refine Zl rfl ?_; (refine h_box rfl rfl rfl rfl rfl rfl (fun _ => ?_)); refine Zn rfl rfl rfl rfl rfl ?_; refine Zw rfl rfl rfl rfl rfl ?_; refine Zf rfl rfl rfl rfl rfl ?_; refine Zh rfl rfl rfl rfl rfl rfl rfl ?_; refine hx_plain rfl ?_; refine h_nilCheck rfl rfl rfl rfl ?_; refine hx_plain rfl ?_; refine h_load rfl rfl UC.out rfl (.tail (.tail .head)) rfl rfl rfl ?_; refine hx_plain rfl ?_)
    refine h_callW rfl rfl rfl rfl rfl rfl rfl rfl EC.out (fun w' h => put32_makes off (h.rdRowV (.tail .head)) (by omega)) ?_
    rintro u M rfl
    (refine Zn rfl rfl rfl rfl rfl ?_; refine hc_ret ?_)
    exact hq_ret1 (.inr rfl) rfl rfl rfl (fun _ h => h.sub (.cons .head (.cons (.tail (.tail .head)) .nil)))
  | len l =>
    refine ⟨_, _, 173, rfl, (fun w => by kernel_rfl), EC.out, fun bv => ?_⟩
    refine specB_of Tryz.func173 rfl rfl (Nat.le_of_ble_eq_true rfl) (fun w F hB hF => ?_)
    unfold rqB
    dsimp only [ReqV.cs, SlV.v]
    (refine Zl rfl ?_; (refine h_box rfl rfl rfl rfl rfl rfl (fun _ => ?_)); refine Zn rfl rfl rfl rfl rfl ?_; refine Zw rfl rfl rfl rfl rfl ?_; refine Zf rfl rfl rfl rfl rfl ?_; refine Zh rfl rfl rfl rfl rfl rfl rfl ?_; refine hx_plain rfl ?_; refine h_nilCheck rfl rfl rfl rfl ?_; refine hx_plain rfl ?_; refine h_load rfl rfl UC.out rfl (.tail (.tail .head)) rfl rfl rfl ?_; refine hx_plain rfl ?_)
    refine h_callW rfl rfl rfl rfl rfl rfl rfl rfl EC.out (fun w' h => put32_makes len (h.rdRowV (.tail .head)) (by omega)) ?_
    rintro u M rfl
    (refine Zn rfl rfl rfl rfl rfl ?_; refine hc_ret ?_)
    exact hq_ret1 (.inr rfl) rfl rfl rfl (fun _ h => h.sub (.cons .head (.cons (.tail (.tail .head)) .nil)))
  | path =>
    have hq := fieldB_lens (strBytes path)
    have hq2 := strBytes_len path
    have hq3 : (fieldB (strBytes path)).length ≤ 100000 := hf
    refine ⟨_, _, 176, rfl, (fun w => by kernel_rfl), EC.out, fun bv => ?_⟩
    refine specB_of Tryz.func176 rfl rfl (Nat.le_of_ble_eq_true rfl) (fun w F hB hF => ?_)
    unfold rqB
    dsimp only [ReqV.cs, SlV.v]
    (refine Zl rfl ?_; (refine h_box rfl rfl rfl rfl rfl rfl (fun _ => ?_)); refine Zn rfl rfl rfl rfl rfl ?_; refine Zw rfl rfl rfl rfl rfl ?_; refine Zf rfl rfl rfl rfl rfl ?_; refine Zh rfl rfl rfl rfl rfl rfl rfl ?_; refine hx_plain rfl ?_; refine h_nilCheck rfl rfl rfl rfl ?_; refine hx_plain rfl ?_; refine h_load rfl rfl UC.out rfl (.tail (.tail .head)) rfl rfl rfl ?_; refine hx_plain rfl ?_)
    refine h_callW rfl rfl rfl rfl rfl rfl rfl rfl EC.out (fun w' h => putText_makes (h.rdRowV (.tail .head)) (by omega) (by omega)) ?_
    rintro u M rfl
    (refine Zn rfl rfl rfl rfl rfl ?_; refine hc_ret ?_)
    exact hq_ret1 (.inr rfl) rfl rfl rfl (fun _ h => h.sub (.cons .head (.cons (.tail (.tail .head)) .nil)))
  | name d =>
    cases d with
    | false =>
      have hq := fieldB_lens (strBytes name)
      have hq2 := strBytes_len name
      have hq3 : (fieldB (strBytes name)).length ≤ 100000 := hf
      refine ⟨_, _, 176, rfl, (fun w => by kernel_rfl), EC.out, fun bv => ?_⟩
      refine specB_of Tryz.func176 rfl rfl (Nat.le_of_ble_eq_true rfl) (fun w F hB hF => ?_)
      unfold rqB
      dsimp only [ReqV.cs, SlV.v]
      (refine Zl rfl ?_; (refine h_box rfl rfl rfl rfl rfl rfl (fun _ => ?_)); refine Zn rfl rfl rfl rfl rfl ?_; refine Zw rfl rfl rfl rfl rfl ?_; refine Zf rfl rfl rfl rfl rfl ?_; refine Zh rfl rfl rfl rfl rfl rfl rfl ?_; refine hx_plain rfl ?_; refine h_nilCheck rfl rfl rfl rfl ?_; refine hx_plain rfl ?_; refine h_load rfl rfl UC.out rfl (.tail (.tail .head)) rfl rfl rfl ?_; refine hx_plain rfl ?_)
      refine h_callW rfl rfl rfl rfl rfl rfl rfl rfl EC.out (fun w' h => putText_makes (h.rdRowV (.tail .head)) (by omega) (by omega)) ?_
      rintro u M rfl
      (refine Zn rfl rfl rfl rfl rfl ?_; refine hc_ret ?_)
      exact hq_ret1 (.inr rfl) rfl rfl rfl (fun _ h => h.sub (.cons .head (.cons (.tail (.tail .head)) .nil)))
    | true =>
      have hq := fieldB_lens (strBytes name)
      have hq2 := strBytes_len name
      have hq3 : (fieldB (strBytes name)).length ≤ 100000 := hf
      refine ⟨_, _, 176, rfl, (fun w => by kernel_rfl), EC.out, fun bv => ?_⟩
      refine specB_of Tryz.func176 rfl rfl (Nat.le_of_ble_eq_true rfl) (fun w F hB hF => ?_)
      unfold rqB
      dsimp only [ReqV.cs, SlV.v]
      (refine Zl rfl ?_; (refine h_box rfl rfl rfl rfl rfl rfl (fun _ => ?_)); refine Zn rfl rfl rfl rfl rfl ?_; refine Zw rfl rfl rfl rfl rfl ?_; refine Zf rfl rfl rfl rfl rfl ?_; refine Zh rfl rfl rfl rfl rfl rfl rfl ?_; refine hx_plain rfl ?_; refine h_nilCheck rfl rfl rfl rfl ?_; refine hx_plain rfl ?_; refine h_load rfl rfl UC.out rfl (.tail (.tail .head)) rfl rfl rfl ?_; refine hx_plain rfl ?_)
      refine h_callW rfl rfl rfl rfl rfl rfl rfl rfl EC.out (fun w' h => putText_makes (h.rdRowV (.tail .head)) (by omega) (by omega)) ?_
      rintro u M rfl
      (refine Zn rfl rfl rfl rfl rfl ?_; refine hc_ret ?_)
      exact hq_ret1 (.inr rfl) rfl rfl rfl (fun _ h => h.sub (.cons .head (.cons (.tail (.tail .head)) .nil)))
  | id2 =>
    refine ⟨_, _, 170, rfl, (fun w => by kernel_rfl), EC.out, fun bv => ?_⟩
    refine specB_of Tryz.func170 rfl rfl (Nat.le_of_ble_eq_true rfl) (fun w F hB hF => ?_)
    unfold rqB
    dsimp only [ReqV.cs, SlV.v]
    (refine Zl rfl ?_; (refine h_box rfl rfl rfl rfl rfl rfl (fun _ => ?_)); refine Zn rfl rfl rfl rfl rfl ?_; refine Zw rfl rfl rfl rfl rfl ?_; refine Zf rfl rfl rfl rfl rfl ?_; refine Zh rfl rfl rfl rfl rfl rfl rfl ?_; refine hx_plain rfl ?_; refine h_nilCheck rfl rfl rfl rfl ?_; refine hx_plain rfl ?_; refine h_load rfl rfl UC.out rfl (.tail (.tail .head)) rfl rfl rfl ?_; refine hx_plain rfl ?_)
    refine h_callW rfl rfl rfl rfl rfl rfl rfl rfl EC.out (fun w' h => put64_makes id2 (h.rdRowV (.tail .head)) (by omega)) ?_
    rintro u M rfl
    (refine Zn rfl rfl rfl rfl rfl ?_; refine hc_ret ?_)
    exact hq_ret1 (.inr rfl) rfl rfl rfl (fun _ h => h.sub (.cons .head (.cons (.tail (.tail .head)) .nil)))
  | name2 =>
    have hq := fieldB_lens (strBytes name2)
    have hq2 := strBytes_len name2
    have hq3 : (fieldB (strBytes name2)).length ≤ 100000 := hf
    refine ⟨_, _, 176, rfl, (fun w => by kernel_rfl), EC.out, fun bv => ?_⟩
    refine specB_of Tryz.func176 rfl rfl (Nat.le_of_ble_eq_true rfl) (fun w F hB hF => ?_)
    unfold rqB
    dsimp only [ReqV.cs, SlV.v]
    (refine Zl rfl ?_; (refine h_box rfl rfl rfl rfl rfl rfl (fun _ => ?_)); refine Zn rfl rfl rfl rfl rfl ?_; refine Zw rfl rfl rfl rfl rfl ?_; refine Zf rfl rfl rfl rfl rfl ?_; refine Zh rfl rfl rfl rfl rfl rfl rfl ?_; refine hx_plain rfl ?_; refine h_nilCheck rfl rfl rfl rfl ?_; refine hx_plain rfl ?_; refine h_load rfl rfl UC.out rfl (.tail (.tail .head)) rfl rfl rfl ?_; refine hx_plain rfl ?_)
    refine h_callW rfl rfl rfl rfl rfl rfl rfl rfl EC.out (fun w' h => putText_makes (h.rdRowV (.tail .head)) (by omega) (by omega)) ?_
    rintro u M rfl
    (refine Zn rfl rfl rfl rfl rfl ?_; refine hc_ret ?_)
    exact hq_ret1 (.inr rfl) rfl rfl rfl (fun _ h => h.sub (.cons .head (.cons (.tail (.tail .head)) .nil)))
  | data =>
    have hq := fieldB_lens ds
    have hq3 : (fieldB ds).length ≤ 100000 := hf
    refine ⟨_, _, 184, rfl, (fun w => by kernel_rfl), EC.out, fun bv => ?_⟩
    refine specB_of Tryz.func184 rfl rfl (Nat.le_of_ble_eq_true rfl) (fun w F hB hF => ?_)
    unfold rqB
    dsimp only [ReqV.cs, SlV.v]
    (refine Zl rfl ?_; (refine h_box rfl rfl rfl rfl rfl rfl (fun _ => ?_)); refine Zn rfl rfl rfl rfl rfl ?_; refine Zw rfl rfl rfl rfl rfl ?_; refine Zf rfl rfl rfl rfl rfl ?_; refine Zh rfl rfl rfl rfl rfl rfl rfl ?_; refine hx_plain rfl ?_; refine h_nilCheck rfl rfl rfl rfl ?_; refine hx_plain rfl ?_; refine h_load rfl rfl UC.out rfl (.tail (.tail .head)) rfl rfl rfl ?_; refine hx_plain rfl ?_)
    refine h_callW rfl rfl rfl rfl rfl rfl rfl rfl EC.out (fun w' h => putBytes_makes (h.rdRowV (.tail .head)) (hd.but (h.butB hB hF)) (by omega) (by omega)) ?_
    rintro u M rfl
    (refine Zn rfl rfl rfl rfl rfl ?_; refine hc_ret ?_)
    exact hq_ret1 (.inr rfl) rfl rfl rfl (fun _ h => h.sub (.cons .head (.cons (.tail (.tail .head)) .nil)))
end Go.Proofs.YtfolhmlldoepfaaGreatDoor
namespace Go.Proofs.YtfolhmlldoepfaaGreatDoor
open Go Go.Proofs Go.RowKit
set_option maxRecDepth 4000
/-- With its sum behind it. -/
def sealed (bs : List Int) : List Int := bs ++ dg (sumR off0 bs) 8
def encQ (r : ReqV) (ds : List Int) (fs : List RqF) : List Int := fs.flatMap fun f => f.enc r ds
theorem encQ_len {r : ReqV} {ds : List Int} : ∀ {fs : List RqF}, (∀ f ∈ fs, (f.enc r ds).length ≤ 100000) → (encQ r ds fs).length ≤ 100000 * fs.length
  | [], _ => Nat.le_refl _
  | f :: fs, h => by
    have h1 := h f (.head _)
    have h2 := encQ_len (fs := fs) fun g hg => h g (.tail _ hg)
    show (f.enc r ds ++ encQ r ds fs).length ≤ 100000 * (fs.length + 1)
    rw [List.length_append]
    omega
set_option maxHeartbeats 4000000 in
theorem writtenQ_spec {w1 : World} (p : Nat) (r : ReqV) {ds : List Int} (hd : Rd byteE w1 r.dv.v ds) {fs : List RqF} (hfs : ∀ f ∈ fs, (f.enc r ds).length ≤ 100000) (hn : fs.length ≤ 4) {b0 : List Int} (hb : b0.length ≤ 1000) (bv v : Value) :
    SpecB Tryz.prog w1 58 [bv, v] [RowV byteE 5 bv b0, RowV (rqE p) 110 v fs, rqB p r] (fun u M => M = [RowV byteE 5 u (sealed (b0 ++ encQ r ds fs))]) := by
  refine specB_of Tryz.func58 rfl rfl (Nat.le_of_ble_eq_true rfl) (fun w F hB hF => ?_)
  refine hc_know (φ := ∃ a c, v = .slice a fs.length c ∧ fs.length ≤ c ∧ c ≤ maxLen) (fun _ h => by obtain ⟨a, c, e, l, m, _⟩ := h.rdRowV (.tail .head); exact ⟨a, c, e, l, m⟩) ?_
  rintro ⟨a1, c1, rfl, l1, m1⟩
  unfold maxLen at m1
  have htk : ∀ i, (encQ r ds (fs.take i)).length ≤ 400000 := fun i => by
    have h1 := encQ_len (r := r) (ds := ds) (fs := fs.take i) fun f hf => hfs f (List.mem_of_mem_take hf)
    have h2 : (fs.take i).length ≤ 4 := by rw [List.length_take]; omega
    omega
  (refine Zx rfl rfl rfl rfl rfl ?_; refine hc_seq ?_; refine Zw rfl rfl rfl rfl rfl ?_; refine hx_plain rfl ?_; refine h_len_slice rfl rfl rfl UC.out rfl rfl rfl ?_; refine Zm rfl rfl rfl rfl rfl ?_; refine Zt ?_; refine hc_block ?_)
  refine hc_cut (id := 0) (Y := Value) (fun y => [(0, y)]) (fun y => [RowV byteE 5 y (b0 ++ encQ r ds fs)]) (fun _ => True) ?_ ?_
  · refine hc_loop (X := Nat × Value) (fun x => [(0, x.2), (7, .slice a1 fs.length c1), (8, .int .i64 (fs.length : Int)), (9, .int .i64 (x.1 : Int))]) (fun x => [RowV byteE 5 x.2 (b0 ++ encQ r ds (fs.take x.1)), RowV (rqE p) 110 (.slice a1 fs.length c1) fs, rqB p r]) (fun x => x.1 ≤ fs.length) (fun x => fs.length - x.1) (0, bv) (.cons rfl (.cons rfl (.cons rfl (.cons rfl .nil)))) (Nat.zero_le _) (fun _ h => by rw [show b0 ++ encQ r ds (fs.take (0, bv).1) = b0 from by show b0 ++ encQ r ds (fs.take 0) = b0; rw [List.take_zero]; exact List.append_nil _]; exact h) ?_
    rintro ⟨i, y⟩ hi
    dsimp only at hi ⊢
    by_cases hlt : i < fs.length
    · obtain ⟨f, hf⟩ : ∃ f, fs[i]? = some f := ⟨_, List.getElem?_eq_getElem hlt⟩
      have e1 : fs[((i : Nat) : Int).toNat]? = some f := hf
      have hnx : b0 ++ encQ r ds (fs.take (i + 1)) = (b0 ++ encQ r ds (fs.take i)) ++ f.enc r ds := by
        rw [List.take_add_one, hf, List.append_assoc]
        unfold encQ
        rw [List.flatMap_append]
        simp
      refine hc_rowV (.tail .head) ?_ ?_
      · intro _ e
        rw [e] at hlt
        exact absurd hlt (Nat.not_lt_zero _)
      rintro g cap e
      injection e with e1' e2' e3'
      subst e1' e3'
      have hbl : (b0 ++ encQ r ds (fs.take i)).length ≤ 10000000 := by have := htk i; rw [List.length_append]; omega
      obtain ⟨t, v0, fn, k1, k2, k3, k4⟩ := putQ p r (bs := b0 ++ encQ r ds (fs.take i)) hd f (hfs f (List.mem_iff_getElem?.2 ⟨i, hf⟩)) hbl
      (refine Zl rfl ?_; refine h_cmp rfl rfl rfl rfl rfl rfl ?_; refine Zt ?_; refine hc_seq ?_; refine hc_condDT rfl (by omega) ?_; refine hc_skip ?_; refine hq_then ?_; refine hc_seq ?_; refine hc_block ?_; refine Zl rfl ?_; refine h_rowAddr rfl rfl rfl UC.out IC.size (by omega) (by omega) rfl rfl ?_; refine hx_plain rfl ?_; refine h_rowLoad1 rfl .head rfl UC.out rfl (by with_reducible assumption) rfl rfl rfl ?_; refine Zn rfl rfl rfl rfl rfl ?_; refine hc_lex ?_; (iterate 2 (refine Zm rfl rfl rfl rfl rfl ?_)); refine hx_plain rfl ?_)
      refine h_invokeB hB hF rfl rfl rfl rfl (congrArg some k1) rfl k2 rfl rfl k3 (.cons (.tail .head) (.cons (.tail .head) .nil)) (k4 y) ?_
      rintro u M rfl
      (refine Za rfl rfl rfl rfl rfl ?_; refine hx_nil ?_; refine hq_norm_block ?_; refine hq_then ?_; refine hc_lex ?_; refine hx_plain rfl ?_; refine h_arithI rfl rfl rfl rfl (by omega) rfl rfl ?_; refine Zm rfl rfl rfl rfl rfl ?_; refine hx_nil ?_)
      refine hq_round (i + 1, u) (by show fs.length - (i + 1) < fs.length - i; omega) (by show i + 1 ≤ fs.length; omega) (.cons rfl (.cons rfl (.cons rfl (.cons rfl .nil)))) (fun _ h => ?_)
      rw [hnx]
      have h1 := (h.pulls (M := [Row (rqE p) 110 g _ _]) (.cons (.tail (.tail .head)) .nil)).rowV_mk
      exact h1.sub (.cons (.tail .head) (.cons .head (.cons .head .nil)))
    · (refine Zl rfl ?_; refine h_cmp rfl rfl rfl rfl rfl rfl ?_; refine Zt ?_; refine hc_seq ?_; refine hc_condDF rfl (by omega) ?_; refine hc_exit ?_; (iterate 2 (refine hq_exit_then ?_)))
      refine hq_cut y trivial (.cons rfl .nil) (fun _ h => ?_)
      rw [List.take_of_length_le (by omega)] at h
      exact h.sub (.cons .head .nil)
  rintro y _
  have hbl : (b0 ++ encQ r ds fs).length ≤ 1000000 := by have := htk fs.length; rw [List.take_length] at this; rw [List.length_append]; omega
  (refine hq_exit_block ?_; refine hq_then ?_; refine Zw rfl rfl rfl rfl rfl ?_; refine Zm rfl rfl rfl rfl rfl ?_; refine hx_plain rfl ?_)
  refine h_callRd rfl rfl rfl rfl rfl rfl EC.out (fun w' h => sum_reads (h.rdRowV .head)) ?_
  (refine hx_plain rfl ?_)
  refine h_callW rfl rfl rfl rfl rfl rfl rfl rfl EC.out (fun w' h => putSum_makes (sumR off0 (b0 ++ encQ r ds fs)) (h.rdRowV .head) (by omega)) ?_
  rintro u M rfl
  (refine Zn rfl rfl rfl rfl rfl ?_; refine hc_ret ?_)
  exact hq_ret1 (.inr rfl) rfl rfl rfl (fun _ h => h.sub (.cons .head .nil))
end Go.Proofs.YtfolhmlldoepfaaGreatDoor
namespace Go.Proofs.YtfolhmlldoepfaaGreatDoor
open Go Go.Proofs Go.RowKit
set_option maxRecDepth 4000
theorem parts_len : ∀ (n : Nat) (l : List UInt8), l.length ≤ n → l.length = ((Nm.partsL l).map fun x => x.length + 1).sum
  | n, [], _ => by rw [Nm.partsL]; rfl
  | 0, _ :: _, h => absurd h (Nat.not_succ_le_zero _)
  | n + 1, c :: t, h => by
    rw [Nm.partsL, List.map_cons, List.sum_cons]
    have hs : (t.takeWhile (· ≠ 47) ++ t.dropWhile (· ≠ 47)).length = t.length := by rw [List.takeWhile_append_dropWhile]
    rw [List.length_append] at hs
    have h2 : t.length ≤ n := by simpa using h
    have := parts_len n (t.dropWhile (· ≠ 47)) (by omega)
    rw [← this, List.length_cons]
    omega
theorem sum_le {α : Type} (g : α → Nat) (m : Nat) : ∀ l : List α, (∀ x ∈ l, g x ≤ m) → (l.map g).sum ≤ m * l.length
  | [], _ => Nat.le_refl _
  | a :: l, h => by
    rw [List.map_cons, List.sum_cons, List.length_cons]
    have h1 := h a (.head _)
    have h2 := sum_le g m l fun x hx => h x (.tail _ hx)
    rw [Nat.mul_succ]
    omega
theorem nm_size {s : ByteArray} (h : Nm.checkV s = 0) : s.size ≤ 23 := by
  unfold Nm.checkV at h
  split at h
  · cases h
  · rename_i h1
    omega
theorem ba_size (a : ByteArray) : a.size = a.data.toList.length := by simp [← ByteArray.size_data]
theorem pth_size {s : ByteArray} (h : isPth s = true) : s.size ≤ 400 := by
  unfold isPth at h
  have h := of_decide_eq_true h
  unfold spl at h
  split at h
  · cases h
  · split at h
    · rename_i h2
      rw [ba_size, h2]
      decide
    · unfold Nm.splitV at h
      split at h
      · cases h
      · rename_i h3
        split at h
        · rename_i h4
          have hall : ∀ x ∈ Nm.partsL s.data.toList, x.length + 1 ≤ 24 := fun x hx => by
            unfold Nm.faultOf at h4
            split at h4
            · rename_i h5
              have := List.all_eq_true.1 h5 ⟨x.toArray⟩ (List.mem_map_of_mem (f := fun l : List UInt8 => (⟨l.toArray⟩ : ByteArray)) hx)
              have h6 := nm_size (by simpa using this)
              rw [ba_size] at h6
              have h7 : x.length ≤ 23 := by simpa using h6
              omega
            · cases h4
          have h8 := parts_len _ s.data.toList (Nat.le_refl _)
          have h9 := sum_le (fun x : List UInt8 => x.length + 1) 24 (Nm.partsL s.data.toList) hall
          have h10 : (Nm.partsB s).length = (Nm.partsL s.data.toList).length := by unfold Nm.partsB; rw [List.length_map]
          rw [ba_size, h8]
          omega
        · cases h
theorem nm_size2 {s : ByteArray} (h : isNm s = true) : s.size ≤ 23 := nm_size (of_decide_eq_true h)
theorem nmN_size {s : ByteArray} (h : isNmN s = true) : s.size ≤ 23 := by
  unfold isNmN at h
  cases h1 : (s.toList == (⟨#[]⟩ : ByteArray).toList) with
  | true =>
    have h2 : s = ⟨#[]⟩ := toList_inj (by simpa using h1)
    rw [h2]
    decide
  | false =>
    rw [h1] at h
    exact nm_size2 h
theorem ok_len {r : ReqV} {ds : List Int} (hd : ds.length = r.dv.len) {f : RqF} (h : f.ok r = true) : (f.enc r ds).length ≤ 2000 := by
  have text : ∀ {s : ByteArray}, s.size ≤ 400 → (fieldB (strBytes s)).length ≤ 2000 := fun {s} hs => by
    have h1 := fieldB_lens (strBytes s)
    have h2 := strBytes_len s
    omega
  cases f with
  | id => show (p64 _).length ≤ 2000; rw [p64_len]; decide
  | off => show (p32 _).length ≤ 2000; rw [p32_len]; decide
  | len l => show (p32 _).length ≤ 2000; rw [p32_len]; decide
  | path => exact text (pth_size h)
  | name d => cases d with
    | false => exact text (Nat.le_trans (nm_size2 h) (by decide))
    | true => exact text (Nat.le_trans (nmN_size h) (by decide))
  | id2 => show (p64 _).length ≤ 2000; rw [p64_len]; decide
  | name2 => exact text (Nat.le_trans (nm_size2 h) (by decide))
  | data =>
    show (fieldB ds).length ≤ 2000
    have h1 := fieldB_lens ds
    have h2 : (decide (1 ≤ r.dv.len) && decide (r.dv.len ≤ 1024)) = true := h
    rw [Bool.and_eq_true, decide_eq_true_iff, decide_eq_true_iff] at h2
    omega
theorem chk_ok {r : ReqV} (h : r.chk = 0) : r.head = 0 ∧ (∀ f ∈ rqFs r.op, f.ok r = true) ∧ (clrAll r (rqFs r.op)).zeroB = true := by
  unfold ReqV.chk at h
  split at h
  · rename_i h1
    split at h
    · rename_i h2
      unfold ReqV.good at h2
      rw [Bool.and_eq_true, List.all_eq_true] at h2
      exact ⟨h1, h2.1, h2.2⟩
    · cases h
  · rename_i h1
    exact absurd h h1
theorem rqFs_len (op : Int) : (rqFs op).length ≤ 4 := by unfold rqFs; rw [List.length_map]; exact askQ_len _
/-- The bytes ahead of the fields. -/
def hdQ (r : ReqV) : List Int := [65, 78, 81, 49] ++ p32 r.client ++ p64 r.seq ++ p64 r.ack ++ p64 r.epoch ++ p32 r.op
def encReq (r : ReqV) (ds : List Int) : List Int := if r.chk = 0 then sealed (hdQ r ++ encQ r ds (rqFs r.op)) else []
-- <A>
set_option maxHeartbeats 8000000 in
theorem encodeRequest_spec {w1 : World} (hk : AskF w1) (r : ReqV) {ds : List Int} (hd : Rd byteE w1 r.dv.v ds) : SpecB Tryz.prog w1 23 [.agg r.cs] [] (fun u M => ∃ sl : SlV, u = .tuple #[sl.v, .int .i64 r.chk] ∧ M = [RowV byteE 5 sl.v (encReq r ds)]) := by
  refine specB_of Tryz.func23 rfl rfl (Nat.le_of_ble_eq_true rfl) (fun w F hB hF => ?_)
  have hdl : ds.length = r.dv.len := by
    obtain ⟨_, _, e, _⟩ := hd
    unfold SlV.v at e
    injection e with _ e _
    exact e.symm
  obtain ⟨r0, hr0⟩ : ∃ r0, r0 = r := ⟨_, rfl⟩
  rw [← hr0] at hd hdl
  obtain ⟨client, seq, ack, epoch, op, id, id2, off, len, path, name, name2, ⟨da, dn, dc⟩⟩ := r
  dsimp only [ReqV.cs, SlV.v]
  (refine Zl rfl ?_; (refine h_box rfl rfl rfl rfl rfl rfl (fun _ => ?_)); refine Za rfl rfl rfl rfl rfl ?_; refine Zn rfl rfl rfl rfl rfl ?_; refine hc_seq ?_; refine Zl rfl ?_)
  refine h_loadP (cs' := #[.int .i64 client, .int .i64 seq, .int .i64 ack, .int .i64 epoch, .int .i64 op, .int .i64 id, .int .i64 id2, .int .i64 off, .int .i64 len, .string path, .string name, .string name2, .slice da dn dc]) rfl rfl UC.out rfl IC.size .head rfl (by kernel_rfl) rfl rfl ?_
  (refine hx_plain rfl ?_)
  refine h_callB hB hF rfl rfl rfl rfl rfl rfl rfl rfl EC.out .nil (checkRequest_spec hk ⟨client, seq, ack, epoch, op, id, id2, off, len, path, name, name2, ⟨da, dn, dc⟩⟩) ?_
  rintro u M ⟨rfl, rfl⟩
  rw [← hr0]
  by_cases hh : r0.chk = 0
  · rw [hh]
    obtain ⟨hhd, hok, hz0⟩ := chk_ok hh
    have hfs : ∀ f ∈ rqFs r0.op, (f.enc r0 ds).length ≤ 100000 := fun f hf => Nat.le_trans (ok_len hdl (hok f hf)) (by decide)
    have henc : encReq r0 ds = sealed (hdQ r0 ++ encQ r0 ds (rqFs r0.op)) := by unfold encReq; rw [if_pos hh]
    have hhq : hdQ r0 = [65, 78, 81, 49] ++ p32 client ++ p64 seq ++ p64 ack ++ p64 epoch ++ p32 op := by rw [hr0]; rfl
    rw [henc]
    (refine Zn rfl rfl rfl rfl rfl ?_; refine Zw rfl rfl rfl rfl rfl ?_; refine Zc rfl rfl rfl rfl rfl rfl rfl ?_; refine Zt ?_; refine hc_condF rfl ?_; refine hc_skip ?_; refine hq_then ?_; refine Zl rfl ?_; (refine h_buildSliceB rfl rfl rfl UC.out IC.size IC.zero rfl rfl rfl (by omega) rfl rfl (fun _ => ?_)); refine hx_plain rfl ?_)
    refine h_convMark rfl rfl rfl rfl UC.out UC.out .head rfl rfl (fun fz => ?_)
    (refine Zf rfl rfl rfl rfl rfl ?_; refine hx_plain rfl ?_; refine h_load rfl rfl UC.out rfl (.tail .head) rfl rfl rfl ?_; refine hx_plain rfl ?_)
    refine h_callW rfl rfl rfl rfl rfl rfl rfl rfl EC.out (fun w' h => put32_makes client (bs := [65, 78, 81, 49]) (St.rdHolds (E := byteE) (St.blk_holds [65, 78, 81, 49] h rfl (by decide) (flat_row byteE [65, 78, 81, 49])) .head (.head _)) (by decide)) ?_
    rintro u1 M rfl
    (refine Zn rfl rfl rfl rfl rfl ?_; refine hc_seq ?_)
    rename_i bx bm
    refine hc_st (C' := St w F [RowV byteE 5 u1 ([65, 78, 81, 49] ++ p32 client), rqB bx ⟨client, seq, ack, epoch, op, id, id2, off, len, path, name, name2, ⟨da, dn, dc⟩⟩]) (fun _ h => h.sub (.cons .head (.cons (.tail .head) .nil))) ?_
    refine hc_drawO [0, 1, 2, 4, 5, 3, 6, 7] (fun i => Nat.beq i 3) (by kernel_rfl) (by kernel_rfl) rfl ?_
    (refine Zm rfl rfl rfl rfl rfl ?_; (iterate 2 (refine Zf rfl rfl rfl rfl rfl ?_; refine hx_plain rfl ?_; refine h_load rfl rfl UC.out rfl (.tail .head) rfl rfl rfl ?_)); refine hx_plain rfl ?_)
    refine h_callWk (post := fun u M => M = [RowV byteE 5 u (([65, 78, 81, 49] ++ p32 client) ++ p64 seq)]) rfl rfl rfl rfl rfl rfl rfl EC.out (fun w' h => put64_makes seq (h.rdRowV .head) (by rw [List.length_append, p32_len]; decide)) ?_
    rintro u2 M rfl
    (refine hx_plain rfl ?_)
    refine h_callWk (post := fun u M => M = [RowV byteE 5 u ((([65, 78, 81, 49] ++ p32 client) ++ p64 seq) ++ p64 ack)]) rfl rfl rfl rfl rfl rfl rfl EC.out (fun w' h => put64_makes ack (h.rdRowV .head) (by rw [List.length_append, List.length_append, p32_len, p64_len]; decide)) ?_
    rintro u3 M rfl
    (refine Zn rfl rfl rfl rfl rfl ?_; refine hc_seq ?_)
    refine hc_st (C' := St w F [RowV byteE 5 u3 ((([65, 78, 81, 49] ++ p32 client) ++ p64 seq) ++ p64 ack), rqB bx ⟨client, seq, ack, epoch, op, id, id2, off, len, path, name, name2, ⟨da, dn, dc⟩⟩]) (fun _ h => h.sub (.cons .head (.cons (.tail (.tail .head)) .nil))) ?_
    refine hc_drawO [0, 1, 2, 4, 5, 3, 6, 7] (fun i => Nat.beq i 3) (by kernel_rfl) (by kernel_rfl) rfl ?_
    (refine Zm rfl rfl rfl rfl rfl ?_; (iterate 2 (refine Zf rfl rfl rfl rfl rfl ?_; refine hx_plain rfl ?_; refine h_load rfl rfl UC.out rfl (.tail .head) rfl rfl rfl ?_)); refine hx_plain rfl ?_)
    refine h_callWk (post := fun u M => M = [RowV byteE 5 u (((([65, 78, 81, 49] ++ p32 client) ++ p64 seq) ++ p64 ack) ++ p64 epoch)]) rfl rfl rfl rfl rfl rfl rfl EC.out (fun w' h => put64_makes epoch (h.rdRowV .head) (by rw [List.length_append, List.length_append, List.length_append, p32_len, p64_len, p64_len]; decide)) ?_
    rintro u4 M rfl
    (refine hx_plain rfl ?_)
    refine h_callWk (post := fun u M => M = [RowV byteE 5 u (hdQ r0)]) rfl rfl rfl rfl rfl rfl rfl EC.out (fun w' h => by rw [hhq]; exact put32_makes op (h.rdRowV .head) (by rw [List.length_append, List.length_append, List.length_append, List.length_append, p32_len, p64_len, p64_len, p64_len]; decide)) ?_
    rintro u5 M rfl
    (refine Zn rfl rfl rfl rfl rfl ?_; refine Zw rfl rfl rfl rfl rfl ?_; refine hx_plain rfl ?_)
    refine hx1_conv rfl rfl (C' := St w F [RowV byteE 5 u5 (hdQ r0), rqB bx r0]) (fun _ h => ?_) ?_
    · rw [show rqB bx r0 = rqB bx ⟨client, seq, ack, epoch, op, id, id2, off, len, path, name, name2, ⟨da, dn, dc⟩⟩ by rw [hr0]]
      exact h.sub (.cons .head (.cons (.tail (.tail .head)) .nil))
    have hhl : (hdQ r0).length ≤ 1000 := by rw [hhq, List.length_append, List.length_append, List.length_append, List.length_append, List.length_append, p32_len, p32_len, p64_len, p64_len, p64_len]; decide
    refine h_callB hB hF rfl rfl rfl rfl rfl rfl rfl rfl EC.out (.cons (.tail .head) .nil) (ofRequest_spec hk bx r0 (head_op hhd)) ?_
    rintro u6 M rfl
    (refine hx_plain rfl ?_)
    refine h_callB hB hF rfl rfl rfl rfl rfl rfl rfl rfl EC.out (.cons (.tail (.tail .head)) (.cons .head (.cons .head .nil))) (writtenQ_spec bx r0 hd hfs (rqFs_len _) hhl u5 u6) ?_
    rintro u7 M rfl
    (refine Za rfl rfl rfl rfl rfl ?_; refine Zn rfl rfl rfl rfl rfl ?_; refine hc_ret ?_)
    refine hq_know (fun _ h => St.rowV_shapeS h .head) ?_
    rintro ⟨a7, c7, rfl⟩
    exact hq_ret2 (.inr rfl) rfl rfl rfl ⟨⟨a7, _, c7⟩, rfl, rfl⟩ (fun _ h => h)
  · (refine Zn rfl rfl rfl rfl rfl ?_; refine Zw rfl rfl rfl rfl rfl ?_; refine Zc rfl rfl rfl rfl rfl rfl rfl ?_; refine Zt ?_; refine hc_condDT rfl (by omega) ?_; refine Zw rfl rfl rfl rfl rfl ?_; refine Za rfl rfl rfl rfl rfl ?_; refine Zn rfl rfl rfl rfl rfl ?_; refine hc_ret ?_; refine hq_ret_then ?_)
    refine hq_ret2 (.inr rfl) rfl rfl rfl ⟨⟨none, 0, 0⟩, rfl, rfl⟩ (fun _ h => ?_)
    unfold encReq
    rw [if_neg hh]
    exact St.rowV_nil h.emp
-- </A>
end Go.Proofs.YtfolhmlldoepfaaGreatDoor
namespace Go.Proofs.YtfolhmlldoepfaaGreatDoor
open Go Go.Proofs Go.RowKit
set_option maxRecDepth 4000
def entEnc (e : EntV) : List Int := fieldB (strBytes e.name) ++ p64 e.id ++ p32 e.kind
def listEnc (es : List EntV) : List Int := p32 (es.length : Int) ++ es.flatMap entEnc
def RpF.enc (r : RepV) (ds : List Int) (es : List EntV) : RpF → List Int
  | .attr _ => p64 r.aid ++ p32 r.akind ++ p32 r.asize ++ p64 r.achange
  | .cont => fieldB ds
  | .list => listEnc es
  | .more => p32 (if r.more then 1 else 0)
/-- How a field is written. -/
def PutP (w1 : World) (p ov : Nat) (r : RepV) (ds bs : List Int) (es : List EntV) (f : RpF) : Prop := ∃ t v0 fn, rpV p ov f = .iface t v0 ∧ (∀ w, (Go.method (Tryz.prog.types.size + Made.depth) t v0 "annex/msg.put").run Tryz.prog w = .ok (fn, v0) w) ∧ Enters Tryz.prog fn ∧ ∀ bv, SpecB Tryz.prog w1 fn [v0, bv] [RowV byteE 5 bv bs, rpB p r] (fun u M => M = [RowV byteE 5 u (bs ++ f.enc r ds es), rpB p r])
set_option maxHeartbeats 8000000 in
theorem putP {w1 : World} (p ov : Nat) (r : RepV) {ds bs : List Int} {es : List EntV} (hd : Rd byteE w1 r.dv.v ds) (hl : Rd entE w1 r.lv.v es) (f : RpF) (hf : (f.enc r ds es).length ≤ 100000) (hb : bs.length ≤ 10000000) : PutP w1 p ov r ds bs es f := by
  obtain ⟨client, seq, epoch, op, status, aid, akind, asize, achange, ⟨da, dn, dc⟩, ⟨la, ln, lc⟩, more⟩ := r
  cases f with
  | attr o =>
    -- <A>
    refine ⟨_, _, 188, rfl, (fun w => by kernel_rfl), EC.out, fun bv => ?_⟩
    refine specB_of Tryz.func188 rfl rfl (Nat.le_of_ble_eq_true rfl) (fun w F hB hF => ?_)
    unfold rpB
    dsimp only [RepV.cs, SlV.v]
    (refine Zl rfl ?_; (refine h_box rfl rfl rfl rfl rfl rfl (fun _ => ?_)); refine Zn rfl rfl rfl rfl rfl ?_; refine hc_seq ?_)
    rename_i bx
    refine hc_drawO [0, 1, 2, 3, 4, 5, 7, 8, 9, 10, 11, 6, 12, 13] (fun i => Nat.beq i 6) (by kernel_rfl) (by kernel_rfl) rfl ?_
    (refine Zm rfl rfl rfl rfl rfl ?_; (iterate 2 (refine Zf rfl rfl rfl rfl rfl ?_; refine Zh rfl rfl rfl rfl rfl rfl rfl ?_; refine hx_plain rfl ?_; refine h_nilCheck rfl rfl rfl rfl ?_; refine hx_plain rfl ?_; refine h_fieldAddr rfl rfl FC.out rfl rfl ?_; refine hx_plain rfl ?_; refine h_load rfl rfl UC.out rfl (.tail (.tail .head)) rfl rfl rfl ?_)); refine hx_plain rfl ?_)
    refine h_callWk (post := fun u M => M = [RowV byteE 5 u (bs ++ p64 aid)]) rfl rfl rfl rfl rfl rfl rfl EC.out (fun w' h => put64_makes aid (h.rdRowV (.tail .head)) (by omega)) ?_
    rintro u1 M rfl
    (refine hx_plain rfl ?_)
    refine h_callW (post := fun u M => M = [RowV byteE 5 u ((bs ++ p64 aid) ++ p32 akind)]) rfl rfl rfl rfl rfl rfl rfl rfl EC.out (fun w' h => put32_makes akind (h.rdRowV .head) (by rw [List.length_append, p64_len]; omega)) ?_
    rintro u2 M rfl
    (refine Zn rfl rfl rfl rfl rfl ?_; refine hc_seq ?_)
    refine hc_drawO [0, 1, 2, 3, 4, 5, 7, 8, 9, 10, 11, 6, 12, 13] (fun i => Nat.beq i 6) (by kernel_rfl) (by kernel_rfl) rfl ?_
    (refine Zm rfl rfl rfl rfl rfl ?_; (iterate 2 (refine Zf rfl rfl rfl rfl rfl ?_; refine hx_plain rfl ?_; refine h_load rfl rfl UC.out rfl (.tail (.tail .head)) rfl rfl rfl ?_; refine hx_plain rfl ?_; refine h_nilCheck rfl rfl rfl rfl ?_; refine hx_plain rfl ?_; refine h_fieldAddr rfl rfl FC.out rfl rfl ?_; refine hx_plain rfl ?_; refine h_load rfl rfl UC.out rfl (.tail (.tail (.tail (.tail .head)))) rfl rfl rfl ?_)); refine hx_plain rfl ?_)
    refine h_callWk (post := fun u M => M = [RowV byteE 5 u (((bs ++ p64 aid) ++ p32 akind) ++ p32 asize)]) rfl rfl rfl rfl rfl rfl rfl EC.out (fun w' h => put32_makes asize (h.rdRowV .head) (by rw [List.length_append, List.length_append, p64_len, p32_len]; omega)) ?_
    rintro u3 M rfl
    (refine hx_plain rfl ?_)
    refine h_callW (post := fun u M => M = [RowV byteE 5 u ((((bs ++ p64 aid) ++ p32 akind) ++ p32 asize) ++ p64 achange)]) rfl rfl rfl rfl rfl rfl rfl rfl EC.out (fun w' h => put64_makes achange (h.rdRowV .head) (by rw [List.length_append, List.length_append, List.length_append, p64_len, p32_len, p32_len]; omega)) ?_
    rintro u4 M rfl
    (refine Zn rfl rfl rfl rfl rfl ?_; refine hc_ret ?_)
    refine hq_ret1 (.inr rfl) rfl rfl rfl (fun _ h => ?_)
    rw [show bs ++ RpF.enc _ ds es (.attr o) = (((bs ++ p64 aid) ++ p32 akind) ++ p32 asize) ++ p64 achange from by show bs ++ (p64 aid ++ p32 akind ++ p32 asize ++ p64 achange) = _; simp only [List.append_assoc]]
    exact h.sub (.cons .head (.cons (.tail (.tail (.tail (.tail (.tail .head))))) .nil))
    -- </A>
  | cont =>
    -- <B>
    have hq := fieldB_lens ds
    have hq3 : (fieldB ds).length ≤ 100000 := hf
    refine ⟨_, _, 184, rfl, (fun w => by kernel_rfl), EC.out, fun bv => ?_⟩
    refine specB_of Tryz.func184 rfl rfl (Nat.le_of_ble_eq_true rfl) (fun w F hB hF => ?_)
    unfold rpB
    dsimp only [RepV.cs, SlV.v]
    (refine Zl rfl ?_; (refine h_box rfl rfl rfl rfl rfl rfl (fun _ => ?_)); refine Zn rfl rfl rfl rfl rfl ?_; refine Zw rfl rfl rfl rfl rfl ?_; refine Zf rfl rfl rfl rfl rfl ?_; refine Zh rfl rfl rfl rfl rfl rfl rfl ?_; refine hx_plain rfl ?_; refine h_nilCheck rfl rfl rfl rfl ?_; refine hx_plain rfl ?_; refine h_load rfl rfl UC.out rfl (.tail (.tail .head)) rfl rfl rfl ?_; refine hx_plain rfl ?_)
    refine h_callW rfl rfl rfl rfl rfl rfl rfl rfl EC.out (fun w' h => putBytes_makes (h.rdRowV (.tail .head)) (hd.but (h.butB hB hF)) (by omega) (by omega)) ?_
    rintro u M rfl
    (refine Zn rfl rfl rfl rfl rfl ?_; refine hc_ret ?_)
    exact hq_ret1 (.inr rfl) rfl rfl rfl (fun _ h => h.sub (.cons .head (.cons (.tail (.tail .head)) .nil)))
    -- </B>
  | list =>
    -- <C>
    have hL : (listEnc es).length ≤ 100000 := hf
    unfold listEnc at hL
    rw [List.length_append, p32_len] at hL
    have hpre : ∀ i, ((es.take i).flatMap entEnc).length ≤ 100000 := fun i => by
      have h1 : es.flatMap entEnc = (es.take i).flatMap entEnc ++ (es.drop i).flatMap entEnc := by rw [← List.flatMap_append, List.take_append_drop]
      rw [h1, List.length_append] at hL
      omega
    obtain ⟨_, _, e, l1, m1, k1⟩ := id hl
    unfold maxLen at m1
    dsimp only [SlV.v] at e
    injection e with e1' e2' e3'
    subst e1' e2' e3'
    refine ⟨_, _, 191, rfl, (fun w => by kernel_rfl), EC.out, fun bv => ?_⟩
    refine specB_of Tryz.func191 rfl rfl (Nat.le_of_ble_eq_true rfl) (fun w F hB hF => ?_)
    unfold rpB
    dsimp only [RepV.cs, SlV.v]
    (refine Zl rfl ?_; (refine h_box rfl rfl rfl rfl rfl rfl (fun _ => ?_)); refine Zn rfl rfl rfl rfl rfl ?_; refine Zw rfl rfl rfl rfl rfl ?_; refine Zf rfl rfl rfl rfl rfl ?_; refine Zh rfl rfl rfl rfl rfl rfl rfl ?_; refine hx_plain rfl ?_; refine h_nilCheck rfl rfl rfl rfl ?_; refine hx_plain rfl ?_; refine h_load rfl rfl UC.out rfl (.tail (.tail .head)) rfl rfl rfl ?_; refine hx_plain rfl ?_; refine h_len_slice rfl rfl rfl UC.out rfl rfl rfl ?_; refine hx_plain rfl ?_)
    refine h_callW (post := fun u M => M = [RowV byteE 5 u (bs ++ p32 (es.length : Int))]) rfl rfl rfl rfl rfl rfl rfl rfl EC.out (fun w' h => put32_makes _ (h.rdRowV (.tail .head)) (by omega)) ?_
    rintro u1 M rfl
    (refine Zn rfl rfl rfl rfl rfl ?_; refine hc_seq ?_; refine Zl rfl ?_; refine h_fieldAddr0 rfl rfl FC.out rfl rfl ?_; refine hx_plain rfl ?_; refine h_load rfl rfl UC.out rfl (.tail .head) rfl rfl rfl ?_; refine hx_plain rfl ?_; refine h_nilCheck rfl rfl rfl rfl ?_; refine hx_plain rfl ?_; refine h_load rfl rfl UC.out rfl (.tail (.tail (.tail .head))) rfl rfl rfl ?_; refine hx_plain rfl ?_; refine h_len_slice rfl rfl rfl UC.out rfl rfl rfl ?_; refine Zm rfl rfl rfl rfl rfl ?_; refine Zt ?_; refine hc_block ?_)
    refine hc_cut (id := 0) (Y := Value) (fun y => [(1, y)]) (fun y => [RowV byteE 5 y (bs ++ (p32 (es.length : Int) ++ es.flatMap entEnc)), rpB p ⟨client, seq, epoch, op, status, aid, akind, asize, achange, ⟨da, dn, dc⟩, ⟨la, es.length, lc⟩, more⟩]) (fun _ => True) ?_ ?_
    · refine hc_loop (X := Nat × Value) (fun x => [(1, x.2), (17, .slice la es.length lc), (18, .int .i64 (es.length : Int)), (19, .int .i64 (x.1 : Int))]) (fun x => [RowV byteE 5 x.2 (bs ++ (p32 (es.length : Int) ++ (es.take x.1).flatMap entEnc)), rpB p ⟨client, seq, epoch, op, status, aid, akind, asize, achange, ⟨da, dn, dc⟩, ⟨la, es.length, lc⟩, more⟩]) (fun x => x.1 ≤ es.length) (fun x => es.length - x.1) (0, u1) (.cons rfl (.cons rfl (.cons rfl (.cons rfl .nil)))) (Nat.zero_le _) (fun _ h => ?_) ?_
      · rw [show bs ++ (p32 (es.length : Int) ++ (es.take (0, u1).1).flatMap entEnc) = bs ++ p32 (es.length : Int) from by show bs ++ (p32 (es.length : Int) ++ (es.take 0).flatMap entEnc) = _; rw [List.take_zero, List.flatMap_nil, List.append_nil]]
        exact h.sub (.cons .head (.cons (.tail (.tail .head)) .nil))
      rintro ⟨i, y⟩ hi
      dsimp only at hi ⊢
      by_cases hlt : i < es.length
      · have hes : es ≠ [] := by
          intro e
          rw [e] at hlt
          exact absurd hlt (Nat.not_lt_zero _)
        obtain ⟨g1, o1, rfl, r1⟩ := k1.resolve_left hes
        obtain ⟨⟨nm, id, kd⟩, hq⟩ : ∃ q, es[i]? = some q := ⟨_, List.getElem?_eq_getElem hlt⟩
        have e1 : es[((i : Nat) : Int).toNat]? = some ⟨nm, id, kd⟩ := hq
        have hp0 := hpre i
        have hp1 := hpre (i + 1)
        have hnx : (es.take (i + 1)).flatMap entEnc = (es.take i).flatMap entEnc ++ (fieldB (strBytes nm) ++ p64 id ++ p32 kd) := by
          rw [List.take_add_one, hq, List.flatMap_append]
          simp [entEnc]
        rw [hnx, List.length_append, List.length_append, List.length_append, p64_len, p32_len] at hp1
        have hq1 := fieldB_lens (strBytes nm)
        have hq2 := strBytes_len nm
        have hl0 : (bs ++ (p32 (es.length : Int) ++ (es.take i).flatMap entEnc)).length ≤ 10200000 := by rw [List.length_append, List.length_append, p32_len]; omega
        have hl1 : ((bs ++ (p32 (es.length : Int) ++ (es.take i).flatMap entEnc)) ++ fieldB (strBytes nm)).length ≤ 10400000 := by rw [List.length_append]; omega
        have hl2 : (((bs ++ (p32 (es.length : Int) ++ (es.take i).flatMap entEnc)) ++ fieldB (strBytes nm)) ++ p64 id).length ≤ 10500000 := by rw [List.length_append, p64_len]; omega
        (refine Zl rfl ?_; refine h_cmp rfl rfl rfl rfl rfl rfl ?_; refine Zt ?_; refine hc_seq ?_; refine hc_condDT rfl (by omega) ?_; refine hc_skip ?_; refine hq_then ?_; refine hc_seq ?_; refine hc_block ?_; refine Zl rfl ?_; refine h_indexAddr rfl rfl rfl UC.out IC.size (by omega) (by omega) rfl rfl ?_; refine hx_plain rfl ?_; refine h_readBN hB hF rfl r1 rfl UC.out rfl IC.size (by with_reducible assumption) rfl rfl rfl ?_; refine hx_plain rfl ?_; (refine h_alloc rfl rfl IC.zero rfl rfl rfl (fun _ => ?_)); refine hx_plain rfl ?_; refine h_store rfl rfl rfl rfl rfl rfl IC.size .head rfl rfl (Nat.le_of_ble_eq_true rfl) (List.all_eq_true.1 rfl) ?_; refine Zt ?_)
        refine hc_drawO [0, 1, 2, 4, 5, 7, 8, 3, 6, 9, 10] (fun i => Nat.beq i 3 || Nat.beq i 6) (by kernel_rfl) (by kernel_rfl) rfl ?_
        (refine Zm rfl rfl rfl rfl rfl ?_; (iterate 3 (refine Zf rfl rfl rfl rfl rfl ?_; refine Zh rfl rfl rfl rfl rfl rfl rfl ?_)); refine hx_plain rfl ?_)
        refine h_callWk (post := fun u M => M = [RowV byteE 5 u ((bs ++ (p32 (es.length : Int) ++ (es.take i).flatMap entEnc)) ++ fieldB (strBytes nm))]) rfl rfl rfl rfl rfl rfl rfl EC.out (fun w' h => putText_makes (s := nm) (h.rdRowV (.tail .head)) (by omega) (by omega)) ?_
        rintro u2 M rfl
        (refine hx_plain rfl ?_)
        refine h_callWk (post := fun u M => M = [RowV byteE 5 u (((bs ++ (p32 (es.length : Int) ++ (es.take i).flatMap entEnc)) ++ fieldB (strBytes nm)) ++ p64 id)]) rfl rfl rfl rfl rfl rfl rfl EC.out (fun w' h => put64_makes _ (h.rdRowV .head) (by omega)) ?_
        rintro u3 M rfl
        (refine hx_plain rfl ?_)
        refine h_callW (post := fun u M => M = [RowV byteE 5 u ((((bs ++ (p32 (es.length : Int) ++ (es.take i).flatMap entEnc)) ++ fieldB (strBytes nm)) ++ p64 id) ++ p32 kd)]) rfl rfl rfl rfl rfl rfl rfl rfl EC.out (fun w' h => put32_makes _ (h.rdRowV .head) (by omega)) ?_
        rintro u4 M rfl
        (refine Za rfl rfl rfl rfl rfl ?_; refine hx_nil ?_; refine hq_norm_block ?_; refine hq_then ?_; refine hc_lex ?_; refine hx_plain rfl ?_; refine h_arithI rfl rfl rfl rfl (by omega) rfl rfl ?_; refine Zm rfl rfl rfl rfl rfl ?_; refine hx_nil ?_)
        refine hq_round (i + 1, u4) (by show es.length - (i + 1) < es.length - i; omega) (by show i + 1 ≤ es.length; omega) (.cons rfl (.cons rfl (.cons rfl (.cons rfl .nil)))) (fun _ h => ?_)
        rw [show (i + 1, u4).1 = i + 1 from rfl, hnx, show bs ++ (p32 (es.length : Int) ++ ((es.take i).flatMap entEnc ++ (fieldB (strBytes nm) ++ p64 id ++ p32 kd))) = (((bs ++ (p32 (es.length : Int) ++ (es.take i).flatMap entEnc)) ++ fieldB (strBytes nm)) ++ p64 id) ++ p32 kd from by simp only [List.append_assoc]]
        exact h.sub (.cons .head (.cons (.tail (.tail (.tail (.tail .head)))) .nil))
      · (refine Zl rfl ?_; refine h_cmp rfl rfl rfl rfl rfl rfl ?_; refine Zt ?_; refine hc_seq ?_; refine hc_condDF rfl (by omega) ?_; refine hc_exit ?_; (iterate 2 (refine hq_exit_then ?_)))
        refine hq_cut y trivial (.cons rfl .nil) (fun _ h => ?_)
        rw [List.take_of_length_le (by omega)] at h
        exact h
    rintro y _
    (refine hq_exit_block ?_; refine hq_then ?_; refine Zw rfl rfl rfl rfl rfl ?_; refine Zn rfl rfl rfl rfl rfl ?_; refine hc_ret ?_)
    exact hq_ret1 (.inr rfl) rfl rfl rfl (fun _ h => h)
    -- </C>
  | more =>
    -- <D>
    refine ⟨_, _, 194, rfl, (fun w => by kernel_rfl), EC.out, fun bv => ?_⟩
    refine specB_of Tryz.func194 rfl rfl (Nat.le_of_ble_eq_true rfl) (fun w F hB hF => ?_)
    unfold rpB
    dsimp only [RepV.cs, SlV.v]
    cases more
    ·
      (refine Zl rfl ?_; (refine h_box rfl rfl rfl rfl rfl rfl (fun _ => ?_)); refine Zn rfl rfl rfl rfl rfl ?_; refine hc_seq ?_; refine Zl rfl ?_; refine h_fieldAddr0 rfl rfl FC.out rfl rfl ?_; refine Zh rfl rfl rfl rfl rfl rfl rfl ?_; refine hx_plain rfl ?_; refine h_nilCheck rfl rfl rfl rfl ?_; refine hx_plain rfl ?_; refine h_load rfl rfl UC.out rfl (.tail (.tail .head)) rfl rfl rfl ?_; refine Zt ?_; refine hc_condF rfl ?_; refine hc_skip ?_; refine hq_then ?_; refine Zw rfl rfl rfl rfl rfl ?_; refine hx_plain rfl ?_)
      refine h_callW rfl rfl rfl rfl rfl rfl rfl rfl EC.out (fun w' h => put32_makes _ (h.rdRowV (.tail .head)) (by omega)) ?_
      rintro u M rfl
      (refine Zn rfl rfl rfl rfl rfl ?_; refine hc_ret ?_)
      exact hq_ret1 (.inr rfl) rfl rfl rfl (fun _ h => h.sub (.cons .head (.cons (.tail (.tail .head)) .nil)))
    ·
      (refine Zl rfl ?_; (refine h_box rfl rfl rfl rfl rfl rfl (fun _ => ?_)); refine Zn rfl rfl rfl rfl rfl ?_; refine hc_seq ?_; refine Zl rfl ?_; refine h_fieldAddr0 rfl rfl FC.out rfl rfl ?_; refine Zh rfl rfl rfl rfl rfl rfl rfl ?_; refine hx_plain rfl ?_; refine h_nilCheck rfl rfl rfl rfl ?_; refine hx_plain rfl ?_; refine h_load rfl rfl UC.out rfl (.tail (.tail .head)) rfl rfl rfl ?_; refine Zt ?_; refine hc_condT rfl ?_; refine Zw rfl rfl rfl rfl rfl ?_; refine hx_plain rfl ?_)
      refine h_callW rfl rfl rfl rfl rfl rfl rfl rfl EC.out (fun w' h => put32_makes _ (h.rdRowV (.tail .head)) (by omega)) ?_
      rintro u M rfl
      (refine Zn rfl rfl rfl rfl rfl ?_; refine hc_ret ?_; refine hq_ret_then ?_)
      exact hq_ret1 (.inr rfl) rfl rfl rfl (fun _ h => h.sub (.cons .head (.cons (.tail (.tail .head)) .nil)))
    -- </D>
end Go.Proofs.YtfolhmlldoepfaaGreatDoor
namespace Go.Proofs.YtfolhmlldoepfaaGreatDoor
open Go Go.Proofs Go.RowKit
set_option maxRecDepth 4000
def encP (r : RepV) (ds : List Int) (es : List EntV) (fs : List RpF) : List Int := fs.flatMap fun f => f.enc r ds es
theorem encP_len {r : RepV} {ds : List Int} {es : List EntV} : ∀ {fs : List RpF}, (∀ f ∈ fs, (f.enc r ds es).length ≤ 100000) → (encP r ds es fs).length ≤ 100000 * fs.length
  | [], _ => Nat.le_refl _
  | f :: fs, h => by
    have h1 := h f (.head _)
    have h2 := encP_len (fs := fs) fun g hg => h g (.tail _ hg)
    show (f.enc r ds es ++ encP r ds es fs).length ≤ 100000 * (fs.length + 1)
    rw [List.length_append]
    omega
set_option maxHeartbeats 4000000 in
theorem writtenP_spec {w1 : World} (p ov : Nat) (r : RepV) {ds : List Int} {es : List EntV} (hd : Rd byteE w1 r.dv.v ds) (hl : Rd entE w1 r.lv.v es) {fs : List RpF} (hfs : ∀ f ∈ fs, (f.enc r ds es).length ≤ 100000) (hn : fs.length ≤ 4) {b0 : List Int} (hb : b0.length ≤ 1000) (bv v : Value) :
    SpecB Tryz.prog w1 58 [bv, v] [RowV byteE 5 bv b0, RowV (rpE p ov) 110 v fs, rpB p r] (fun u M => M = [RowV byteE 5 u (sealed (b0 ++ encP r ds es fs))]) := by
  refine specB_of Tryz.func58 rfl rfl (Nat.le_of_ble_eq_true rfl) (fun w F hB hF => ?_)
  refine hc_know (φ := ∃ a c, v = .slice a fs.length c ∧ fs.length ≤ c ∧ c ≤ maxLen) (fun _ h => by obtain ⟨a, c, e, l, m, _⟩ := h.rdRowV (.tail .head); exact ⟨a, c, e, l, m⟩) ?_
  rintro ⟨a1, c1, rfl, l1, m1⟩
  unfold maxLen at m1
  have htk : ∀ i, (encP r ds es (fs.take i)).length ≤ 400000 := fun i => by
    have h1 := encP_len (r := r) (ds := ds) (es := es) (fs := fs.take i) fun f hf => hfs f (List.mem_of_mem_take hf)
    have h2 : (fs.take i).length ≤ 4 := by rw [List.length_take]; omega
    omega
  (refine Zx rfl rfl rfl rfl rfl ?_; refine hc_seq ?_; refine Zw rfl rfl rfl rfl rfl ?_; refine hx_plain rfl ?_; refine h_len_slice rfl rfl rfl UC.out rfl rfl rfl ?_; refine Zm rfl rfl rfl rfl rfl ?_; refine Zt ?_; refine hc_block ?_)
  refine hc_cut (id := 0) (Y := Value) (fun y => [(0, y)]) (fun y => [RowV byteE 5 y (b0 ++ encP r ds es fs)]) (fun _ => True) ?_ ?_
  · refine hc_loop (X := Nat × Value) (fun x => [(0, x.2), (7, .slice a1 fs.length c1), (8, .int .i64 (fs.length : Int)), (9, .int .i64 (x.1 : Int))]) (fun x => [RowV byteE 5 x.2 (b0 ++ encP r ds es (fs.take x.1)), RowV (rpE p ov) 110 (.slice a1 fs.length c1) fs, rpB p r]) (fun x => x.1 ≤ fs.length) (fun x => fs.length - x.1) (0, bv) (.cons rfl (.cons rfl (.cons rfl (.cons rfl .nil)))) (Nat.zero_le _) (fun _ h => by rw [show b0 ++ encP r ds es (fs.take (0, bv).1) = b0 from by show b0 ++ encP r ds es (fs.take 0) = b0; rw [List.take_zero]; exact List.append_nil _]; exact h) ?_
    rintro ⟨i, y⟩ hi
    dsimp only at hi ⊢
    by_cases hlt : i < fs.length
    · obtain ⟨f, hf⟩ : ∃ f, fs[i]? = some f := ⟨_, List.getElem?_eq_getElem hlt⟩
      have e1 : fs[((i : Nat) : Int).toNat]? = some f := hf
      have hnx : b0 ++ encP r ds es (fs.take (i + 1)) = (b0 ++ encP r ds es (fs.take i)) ++ f.enc r ds es := by
        rw [List.take_add_one, hf, List.append_assoc]
        unfold encP
        rw [List.flatMap_append]
        simp
      refine hc_rowV (.tail .head) ?_ ?_
      · intro _ e
        rw [e] at hlt
        exact absurd hlt (Nat.not_lt_zero _)
      rintro g cap e
      injection e with e1' e2' e3'
      subst e1' e3'
      have hbl : (b0 ++ encP r ds es (fs.take i)).length ≤ 10000000 := by have := htk i; rw [List.length_append]; omega
      obtain ⟨t, v0, fn, k1, k2, k3, k4⟩ := putP p ov r (bs := b0 ++ encP r ds es (fs.take i)) hd hl f (hfs f (List.mem_iff_getElem?.2 ⟨i, hf⟩)) hbl
      (refine Zl rfl ?_; refine h_cmp rfl rfl rfl rfl rfl rfl ?_; refine Zt ?_; refine hc_seq ?_; refine hc_condDT rfl (by omega) ?_; refine hc_skip ?_; refine hq_then ?_; refine hc_seq ?_; refine hc_block ?_; refine Zl rfl ?_; refine h_rowAddr rfl rfl rfl UC.out IC.size (by omega) (by omega) rfl rfl ?_; refine hx_plain rfl ?_; refine h_rowLoad1 rfl .head rfl UC.out rfl (by with_reducible assumption) rfl rfl rfl ?_; refine Zn rfl rfl rfl rfl rfl ?_; refine hc_lex ?_; (iterate 2 (refine Zm rfl rfl rfl rfl rfl ?_)); refine hx_plain rfl ?_)
      refine h_invokeB hB hF rfl rfl rfl rfl (congrArg some k1) rfl k2 rfl rfl k3 (.cons (.tail .head) (.cons (.tail .head) .nil)) (k4 y) ?_
      rintro u M rfl
      (refine Za rfl rfl rfl rfl rfl ?_; refine hx_nil ?_; refine hq_norm_block ?_; refine hq_then ?_; refine hc_lex ?_; refine hx_plain rfl ?_; refine h_arithI rfl rfl rfl rfl (by omega) rfl rfl ?_; refine Zm rfl rfl rfl rfl rfl ?_; refine hx_nil ?_)
      refine hq_round (i + 1, u) (by show fs.length - (i + 1) < fs.length - i; omega) (by show i + 1 ≤ fs.length; omega) (.cons rfl (.cons rfl (.cons rfl (.cons rfl .nil)))) (fun _ h => ?_)
      rw [hnx]
      have h1 := (h.pulls (M := [Row (rpE p ov) 110 g _ _]) (.cons (.tail (.tail .head)) .nil)).rowV_mk
      exact h1.sub (.cons (.tail .head) (.cons .head (.cons .head .nil)))
    · (refine Zl rfl ?_; refine h_cmp rfl rfl rfl rfl rfl rfl ?_; refine Zt ?_; refine hc_seq ?_; refine hc_condDF rfl (by omega) ?_; refine hc_exit ?_; (iterate 2 (refine hq_exit_then ?_)))
      refine hq_cut y trivial (.cons rfl .nil) (fun _ h => ?_)
      rw [List.take_of_length_le (by omega)] at h
      exact h.sub (.cons .head .nil)
  rintro y _
  have hbl : (b0 ++ encP r ds es fs).length ≤ 1000000 := by have := htk fs.length; rw [List.take_length] at this; rw [List.length_append]; omega
  (refine hq_exit_block ?_; refine hq_then ?_; refine Zw rfl rfl rfl rfl rfl ?_; refine Zm rfl rfl rfl rfl rfl ?_; refine hx_plain rfl ?_)
  refine h_callRd rfl rfl rfl rfl rfl rfl EC.out (fun w' h => sum_reads (h.rdRowV .head)) ?_
  (refine hx_plain rfl ?_)
  refine h_callW rfl rfl rfl rfl rfl rfl rfl rfl EC.out (fun w' h => putSum_makes (sumR off0 (b0 ++ encP r ds es fs)) (h.rdRowV .head) (by omega)) ?_
  rintro u M rfl
  (refine Zn rfl rfl rfl rfl rfl ?_; refine hc_ret ?_)
  exact hq_ret1 (.inr rfl) rfl rfl rfl (fun _ h => h.sub (.cons .head .nil))
end Go.Proofs.YtfolhmlldoepfaaGreatDoor
namespace Go.Proofs.YtfolhmlldoepfaaGreatDoor
open Go Go.Proofs Go.RowKit
set_option maxRecDepth 4000
def rpFs' (r : RepV) : List RpF := if r.status = 0 then rpFs r.op else []
theorem rpFs_len (r : RepV) : (rpFs' r).length ≤ 4 := by
  unfold rpFs'
  split
  · unfold rpFs
    rw [List.length_map]
    exact Nat.le_trans (askP_len _) (by decide)
  · exact Nat.zero_le _
theorem listB_nm : ∀ (es : List EntV) (p : Option EntV), listB p es = true → ∀ e ∈ es, isNm e.name = true
  | e :: es, p, h, e', he => by
    unfold listB at h
    rw [Bool.and_eq_true] at h
    rcases List.mem_cons.1 he with rfl | he
    · have h1 := h.1
      unfold entB at h1
      simp only [Bool.and_eq_true] at h1
      exact h1.1.1.1
    · exact listB_nm es _ h.2 e' he
theorem list_len : ∀ es : List EntV, (∀ e ∈ es, isNm e.name = true) → (es.flatMap entEnc).length ≤ 50 * es.length
  | [], _ => Nat.le_refl _
  | e :: es, h => by
    have h1 := nm_size2 (h e (.head _))
    have h2 := list_len es fun e' he => h e' (.tail _ he)
    have h3 := fieldB_lens (strBytes e.name)
    have h4 := strBytes_len e.name
    rw [List.flatMap_cons, List.length_append, List.length_cons]
    unfold entEnc
    rw [List.length_append, List.length_append, p64_len, p32_len]
    unfold entEnc at h2
    omega
theorem okP_len {r : RepV} {ds : List Int} {es : List EntV} (hd : ds.length = r.dv.len) {f : RpF} (h : f.ok r es = true) : (f.enc r ds es).length ≤ 2000 := by
  cases f with
  | attr o => show (p64 _ ++ p32 _ ++ p32 _ ++ p64 _).length ≤ 2000; rw [List.length_append, List.length_append, List.length_append, p64_len, p64_len, p32_len, p32_len]; decide
  | cont =>
    show (fieldB ds).length ≤ 2000
    have h1 := fieldB_lens ds
    have h2 : decide (r.dv.len ≤ 1024) = true := h
    rw [decide_eq_true_iff] at h2
    omega
  | list =>
    show (p32 _ ++ es.flatMap entEnc).length ≤ 2000
    have h2 : (listB none es && decide (es.length ≤ 16)) = true := h
    rw [Bool.and_eq_true, decide_eq_true_iff] at h2
    have h3 := list_len es (listB_nm es none h2.1)
    rw [List.length_append, p32_len]
    omega
  | more => show (p32 _).length ≤ 2000; rw [p32_len]; decide
theorem chkP_ok {r : RepV} {es : List EntV} (h : r.chk es = 0) : r.head = 0 ∧ (∀ f ∈ rpFs' r, f.ok r es = true) ∧ (clrP' r).zeroB = true := by
  unfold RepV.chk at h
  split at h
  · rename_i h1
    split at h
    · rename_i h2
      unfold RepV.good at h2
      rw [Bool.and_eq_true, List.all_eq_true] at h2
      exact ⟨h1, h2.1, h2.2⟩
    · cases h
  · rename_i h1
    exact absurd h h1
/-- The bytes ahead of the fields. -/
def hdP (r : RepV) : List Int := [65, 78, 82, 49] ++ p32 r.client ++ p64 r.seq ++ p64 r.epoch ++ p32 r.op ++ p32 r.status
def encRep (r : RepV) (ds : List Int) (es : List EntV) : List Int := if r.chk es = 0 then sealed (hdP r ++ encP r ds es (rpFs' r)) else []
set_option maxHeartbeats 8000000 in
theorem encodeReply_spec {w1 : World} (hk : AskF w1) (r : RepV) {ds : List Int} {es : List EntV} (hd : Rd byteE w1 r.dv.v ds) (hl : Rd entE w1 r.lv.v es) : SpecB Tryz.prog w1 25 [.agg r.cs] [] (fun u M => ∃ sl : SlV, u = .tuple #[sl.v, .int .i64 (r.chk es)] ∧ M = [RowV byteE 5 sl.v (encRep r ds es)]) := by
  refine specB_of Tryz.func25 rfl rfl (Nat.le_of_ble_eq_true rfl) (fun w F hB hF => ?_)
  have hdl : ds.length = r.dv.len := by
    obtain ⟨_, _, e, _⟩ := hd
    unfold SlV.v at e
    injection e with _ e _
    exact e.symm
  have hl0 := hl
  obtain ⟨r0, hr0⟩ : ∃ r0, r0 = r := ⟨_, rfl⟩
  rw [← hr0] at hd hdl hl
  obtain ⟨client, seq, epoch, op, status, aid, akind, asize, achange, ⟨da, dn, dc⟩, ⟨la, ln, lc⟩, more⟩ := r
  dsimp only [RepV.cs, SlV.v]
  (refine Zl rfl ?_; (refine h_box rfl rfl rfl rfl rfl rfl (fun _ => ?_)); refine Za rfl rfl rfl rfl rfl ?_; refine Zn rfl rfl rfl rfl rfl ?_; refine hc_seq ?_; refine Zl rfl ?_)
  refine h_loadP (cs' := #[.int .i64 client, .int .i64 seq, .int .i64 epoch, .int .i64 op, .int .i64 status, .int .i64 aid, .int .i64 akind, .int .i64 asize, .int .i64 achange, .slice da dn dc, .slice la ln lc, .bool more]) rfl rfl UC.out rfl IC.size .head rfl (by kernel_rfl) rfl rfl ?_
  (refine hx_plain rfl ?_)
  refine h_callB hB hF rfl rfl rfl rfl rfl rfl rfl rfl EC.out .nil (checkReply_spec hk ⟨client, seq, epoch, op, status, aid, akind, asize, achange, ⟨da, dn, dc⟩, ⟨la, ln, lc⟩, more⟩ hl0) ?_
  rintro u M ⟨rfl, rfl⟩
  rw [← hr0]
  by_cases hh : r0.chk es = 0
  · rw [hh]
    obtain ⟨hhd, hok, hz0⟩ := chkP_ok hh
    have hfs : ∀ f ∈ rpFs' r0, (f.enc r0 ds es).length ≤ 100000 := fun f hf => Nat.le_trans (okP_len hdl (hok f hf)) (by decide)
    have henc : encRep r0 ds es = sealed (hdP r0 ++ encP r0 ds es (rpFs' r0)) := by unfold encRep; rw [if_pos hh]
    have hhq : hdP r0 = [65, 78, 82, 49] ++ p32 client ++ p64 seq ++ p64 epoch ++ p32 op ++ p32 status := by rw [hr0]; rfl
    rw [henc]
    (refine Zn rfl rfl rfl rfl rfl ?_; refine Zw rfl rfl rfl rfl rfl ?_; refine Zc rfl rfl rfl rfl rfl rfl rfl ?_; refine Zt ?_; refine hc_condF rfl ?_; refine hc_skip ?_; refine hq_then ?_; refine Zl rfl ?_; (refine h_alloc rfl rfl IC.zero rfl rfl rfl (fun _ => ?_)); refine Zt ?_; refine Zl rfl ?_; (refine h_buildSliceB rfl rfl rfl UC.out IC.size IC.zero rfl rfl rfl (by omega) rfl rfl (fun _ => ?_)); refine hx_plain rfl ?_)
    refine h_convMark rfl rfl rfl rfl UC.out UC.out .head rfl rfl (fun fz => ?_)
    (refine Zf rfl rfl rfl rfl rfl ?_; refine hx_plain rfl ?_; refine h_load rfl rfl UC.out rfl (.tail (.tail .head)) rfl rfl rfl ?_; refine hx_plain rfl ?_)
    refine h_callW rfl rfl rfl rfl rfl rfl rfl rfl EC.out (fun w' h => put32_makes client (bs := [65, 78, 82, 49]) (St.rdHolds (E := byteE) (St.blk_holds [65, 78, 82, 49] h rfl (by decide) (flat_row byteE [65, 78, 82, 49])) .head (.head _)) (by decide)) ?_
    rintro u1 M rfl
    (refine Zn rfl rfl rfl rfl rfl ?_; refine hc_seq ?_)
    rename_i bx bo bm
    refine hc_st (C' := St w F [RowV byteE 5 u1 ([65, 78, 82, 49] ++ p32 client), rpB bx ⟨client, seq, epoch, op, status, aid, akind, asize, achange, ⟨da, dn, dc⟩, ⟨la, ln, lc⟩, more⟩]) (fun _ h => h.sub (.cons .head (.cons (.tail (.tail .head)) .nil))) ?_
    refine hc_drawO [0, 1, 2, 4, 5, 3, 6, 7] (fun i => Nat.beq i 3) (by kernel_rfl) (by kernel_rfl) rfl ?_
    (refine Zm rfl rfl rfl rfl rfl ?_; (iterate 2 (refine Zf rfl rfl rfl rfl rfl ?_; refine hx_plain rfl ?_; refine h_load rfl rfl UC.out rfl (.tail .head) rfl rfl rfl ?_)); refine hx_plain rfl ?_)
    refine h_callWk (post := fun u M => M = [RowV byteE 5 u (([65, 78, 82, 49] ++ p32 client) ++ p64 seq)]) rfl rfl rfl rfl rfl rfl rfl EC.out (fun w' h => put64_makes seq (h.rdRowV .head) (by rw [List.length_append, p32_len]; decide)) ?_
    rintro u2 M rfl
    (refine hx_plain rfl ?_)
    refine h_callWk (post := fun u M => M = [RowV byteE 5 u ((([65, 78, 82, 49] ++ p32 client) ++ p64 seq) ++ p64 epoch)]) rfl rfl rfl rfl rfl rfl rfl EC.out (fun w' h => put64_makes epoch (h.rdRowV .head) (by rw [List.length_append, List.length_append, p32_len, p64_len]; decide)) ?_
    rintro u3 M rfl
    (refine Zn rfl rfl rfl rfl rfl ?_; refine hc_seq ?_)
    refine hc_st (C' := St w F [RowV byteE 5 u3 ((([65, 78, 82, 49] ++ p32 client) ++ p64 seq) ++ p64 epoch), rpB bx ⟨client, seq, epoch, op, status, aid, akind, asize, achange, ⟨da, dn, dc⟩, ⟨la, ln, lc⟩, more⟩]) (fun _ h => h.sub (.cons .head (.cons (.tail (.tail .head)) .nil))) ?_
    refine hc_drawO [0, 1, 2, 4, 5, 3, 6, 7] (fun i => Nat.beq i 3) (by kernel_rfl) (by kernel_rfl) rfl ?_
    (refine Zm rfl rfl rfl rfl rfl ?_; (iterate 2 (refine Zf rfl rfl rfl rfl rfl ?_; refine hx_plain rfl ?_; refine h_load rfl rfl UC.out rfl (.tail .head) rfl rfl rfl ?_)); refine hx_plain rfl ?_)
    refine h_callWk (post := fun u M => M = [RowV byteE 5 u (((([65, 78, 82, 49] ++ p32 client) ++ p64 seq) ++ p64 epoch) ++ p32 op)]) rfl rfl rfl rfl rfl rfl rfl EC.out (fun w' h => put32_makes op (h.rdRowV .head) (by rw [List.length_append, List.length_append, List.length_append, p32_len, p64_len, p64_len]; decide)) ?_
    rintro u4 M rfl
    (refine hx_plain rfl ?_)
    refine h_callWk (post := fun u M => M = [RowV byteE 5 u (hdP r0)]) rfl rfl rfl rfl rfl rfl rfl EC.out (fun w' h => by rw [hhq]; exact put32_makes status (h.rdRowV .head) (by rw [List.length_append, List.length_append, List.length_append, List.length_append, p32_len, p64_len, p64_len, p32_len]; decide)) ?_
    rintro u5 M rfl
    (refine Zn rfl rfl rfl rfl rfl ?_; refine Zw rfl rfl rfl rfl rfl ?_; refine hx_plain rfl ?_)
    refine hx1_conv rfl rfl (C' := St w F [RowV byteE 5 u5 (hdP r0), rpB bx r0]) (fun _ h => ?_) ?_
    · rw [show rpB bx r0 = rpB bx ⟨client, seq, epoch, op, status, aid, akind, asize, achange, ⟨da, dn, dc⟩, ⟨la, ln, lc⟩, more⟩ by rw [hr0]]
      exact h.sub (.cons .head (.cons (.tail (.tail .head)) .nil))
    have hhl : (hdP r0).length ≤ 1000 := by rw [hhq, List.length_append, List.length_append, List.length_append, List.length_append, List.length_append, p32_len, p32_len, p32_len, p64_len, p64_len]; decide
    refine h_callB hB hF rfl rfl rfl rfl rfl rfl rfl rfl EC.out (.cons (.tail .head) .nil) (ofReply_spec hk bx bo r0 (headP_op hhd)) ?_
    rintro u6 M rfl
    (refine hx_plain rfl ?_)
    refine h_callB hB hF rfl rfl rfl rfl rfl rfl rfl rfl EC.out (.cons (.tail (.tail .head)) (.cons .head (.cons .head .nil))) (writtenP_spec bx bo r0 hd hl hfs (rpFs_len _) hhl u5 u6) ?_
    rintro u7 M rfl
    (refine Za rfl rfl rfl rfl rfl ?_; refine Zn rfl rfl rfl rfl rfl ?_; refine hc_ret ?_)
    refine hq_know (fun _ h => St.rowV_shapeS h .head) ?_
    rintro ⟨a7, c7, rfl⟩
    exact hq_ret2 (.inr rfl) rfl rfl rfl ⟨⟨a7, _, c7⟩, rfl, rfl⟩ (fun _ h => h)
  · (refine Zn rfl rfl rfl rfl rfl ?_; refine Zw rfl rfl rfl rfl rfl ?_; refine Zc rfl rfl rfl rfl rfl rfl rfl ?_; refine Zt ?_; refine hc_condDT rfl (by omega) ?_; refine Zw rfl rfl rfl rfl rfl ?_; refine Za rfl rfl rfl rfl rfl ?_; refine Zn rfl rfl rfl rfl rfl ?_; refine hc_ret ?_; refine hq_ret_then ?_)
    refine hq_ret2 (.inr rfl) rfl rfl rfl ⟨⟨none, 0, 0⟩, rfl, rfl⟩ (fun _ h => ?_)
    unfold encRep
    rw [if_neg hh]
    exact St.rowV_nil h.emp
end Go.Proofs.YtfolhmlldoepfaaGreatDoor
namespace Go.Proofs.YtfolhmlldoepfaaGreatDoor
open Go Go.Proofs Go.RowKit
set_option maxRecDepth 4000
section
variable {P : Program} {n : Nat} {ds : List Deferred} {ops : Array Oper} {ev : Nat → Bool} {D C : World → Prop} {K : Env → (World → Prop) → Prop} {r : List (Nat × Oper)} {e : Env}
/-- What is known ahead of an event. -/
theorem hd_know {i : Nat} {o : Oper} {φ : Prop} (hg : o.guard = none) (hev : ev i = true) (hk : ∀ w, C w → φ) (h : φ → HD P n ds ops ev D K ((i, o) :: r) e C) : HD P n ds ops ev D K ((i, o) :: r) e C := ⟨fun a ha => by
  simp only [TXD]
  rw [if_pos (by simp [Region.wanted, hg]), if_pos hev]
  intro w hC
  have h2 := (h (hk w hC)).out a ha
  simp only [TXD] at h2
  rw [if_pos (by simp [Region.wanted, hg]), if_pos hev] at h2
  exact h2 w hC⟩
end
abbrev mst32 : Int := 4294967295
abbrev mst64 : Int := 9223372036854775807
/-- A request under way: what has been read of it, its data, the reader's place and error. -/
structure TkQ where
  r : ReqV
  ds : List Int
  at_ : Nat
  er : Int
def RqF.take (bs : List Int) (x : TkQ) : RqF → TkQ
  | .id => ⟨{ x.r with id := (U64R bs x.at_ x.er mst64).1 }, x.ds, (U64R bs x.at_ x.er mst64).2.1, (U64R bs x.at_ x.er mst64).2.2⟩
  | .off => ⟨{ x.r with off := (U32R bs x.at_ x.er mst32).1 }, x.ds, (U32R bs x.at_ x.er mst32).2.1, (U32R bs x.at_ x.er mst32).2.2⟩
  | .len _ => ⟨{ x.r with len := (U32R bs x.at_ x.er mst32).1 }, x.ds, (U32R bs x.at_ x.er mst32).2.1, (U32R bs x.at_ x.er mst32).2.2⟩
  | .path => ⟨{ x.r with path := strOf (BodyR bs x.at_ x.er 384).1 }, x.ds, (BodyR bs x.at_ x.er 384).2.1, (BodyR bs x.at_ x.er 384).2.2⟩
  | .name _ => ⟨{ x.r with name := strOf (BodyR bs x.at_ x.er 23).1 }, x.ds, (BodyR bs x.at_ x.er 23).2.1, (BodyR bs x.at_ x.er 23).2.2⟩
  | .id2 => ⟨{ x.r with id2 := (U64R bs x.at_ x.er mst64).1 }, x.ds, (U64R bs x.at_ x.er mst64).2.1, (U64R bs x.at_ x.er mst64).2.2⟩
  | .name2 => ⟨{ x.r with name2 := strOf (BodyR bs x.at_ x.er 23).1 }, x.ds, (BodyR bs x.at_ x.er 23).2.1, (BodyR bs x.at_ x.er 23).2.2⟩
  | .data => ⟨x.r, (BodyR bs x.at_ x.er 1024).1, (BodyR bs x.at_ x.er 1024).2.1, (BodyR bs x.at_ x.er 1024).2.2⟩
/-- The request under way: its Data is its own. -/
def DqO (p : Nat) (r : ReqV) (ds : List Int) : Asn := Ex fun sl : SlV => All [rqB p { r with dv := sl }, RowV byteE 5 sl.v ds]
theorem DqO_open {p : Nat} {r : ReqV} {ds : List Int} (w w0 : World) (F0 : Nat → Prop) (R : List Asn) (h : St w0 F0 (DqO p r ds :: R) w) : ∃ sl : SlV, St w0 F0 ([rqB p { r with dv := sl }, RowV byteE 5 sl.v ds] ++ R) w := by
  obtain ⟨x, hx⟩ := St.ex.1 h
  exact ⟨x, St.all.1 hx⟩
theorem DqO_shut {p : Nat} {r : ReqV} {ds : List Int} {sl : SlV} {w w0 : World} {F0 : Nat → Prop} {R : List Asn} (h : St w0 F0 (rqB p { r with dv := sl } :: RowV byteE 5 sl.v ds :: R) w) : St w0 F0 (DqO p r ds :: R) w := St.ex.2 ⟨sl, St.all.2 h⟩
/-- How a field is taken. -/
def TakeQ (w1 : World) (p q : Nat) (bs : List Int) (x : TkQ) (f : RqF) : Prop := ∃ t v0 fn, rqV p f = .iface t v0 ∧ (∀ w, (Go.method (Tryz.prog.types.size + Made.depth) t v0 "annex/msg.take").run Tryz.prog w = .ok (fn, v0) w) ∧ Enters Tryz.prog fn ∧ SpecB Tryz.prog w1 fn [v0, ptrV q 0] [RdrX q bs x.at_ x.er, DqO p x.r x.ds] (fun u M => M = [RdrX q bs (f.take bs x).at_ (f.take bs x).er, DqO p (f.take bs x).r (f.take bs x).ds])
theorem takeQ {w1 : World} {E : Addr} {g : Nat} (hI : Glo (gl E) g w1) (p q : Nat) {bs : List Int} (hb : Byts bs) (hl : bs.length ≤ 140737488355200) (x : TkQ) (hat : x.at_ ≤ bs.length) (f : RqF) : TakeQ w1 p q bs x f := by
  obtain ⟨⟨client, seq, ack, epoch, op, id, id2, off, len, path, name, name2, dv⟩, ds, at_, er⟩ := x
  dsimp only at hat
  cases f with
  | id =>
    -- <id>
    refine ⟨_, _, 171, rfl, (fun w => by kernel_rfl), EC.out, ?_⟩
    refine specB_of Tryz.func171 rfl rfl (Nat.le_of_ble_eq_true rfl) (fun w F hB hF => ?_)
    dsimp only [RqF.take]
    refine hc_open (.tail .head) DqO_open ?_
    rintro ⟨da, dn, dc⟩
    unfold rqB
    dsimp only [ReqV.cs, SlV.v]
    (refine Zl rfl ?_; (refine h_box rfl rfl rfl rfl rfl rfl (fun _ => ?_)); refine Zt ?_)
    rename_i b
    refine hc_drawE (D := fun x => St w F [Blk b (.cells #[ptrV p 5] 128 (0, 0))] x) (fun i => i == 3 || i == 5) [0, 1, 2] [3, 4, 5] (by kernel_rfl) (by kernel_rfl) rfl (fun x h => h.sub (.cons .head .nil)) rfl ?_
    (refine Zf rfl rfl rfl rfl rfl ?_; refine Zh rfl rfl rfl rfl rfl rfl rfl ?_; refine Zm rfl rfl rfl rfl rfl ?_; refine hx_nil ?_)
    refine hd_callB hB hF rfl rfl rfl rfl rfl rfl rfl rfl EC.out (.cons (.tail (.tail (.tail .head))) .nil) ((u64_all q bs at_ er mst64 E g hl hat).toB hI) (fun v M hM x h => by obtain ⟨rfl, rfl⟩ := hM; exact h.sub (.cons (.tail .head) .nil)) ?_
    rintro v M ⟨rfl, rfl⟩
    refine hd_reads [(4, _)] rfl ?_
    (refine hx_plain rfl ?_; refine h_nilCheck rfl rfl rfl rfl ?_; refine hx_nil ?_)
    refine hd_store rfl rfl rfl rfl rfl rfl IC.size (.tail (.tail .head)) rfl rfl (Nat.le_of_ble_eq_true rfl) (List.all_eq_true.1 rfl) (fun x h => h.sub (.cons (.tail (.tail .head)) .nil)) ?_
    refine hd_nil ?_
    skip
    refine hq_ret0 (.inl rfl) rfl rfl (fun _ h => ?_)
    have h2 := h.sub (.cons .head (.cons (.tail (.tail .head)) (.cons .head .nil)))
    exact (DqO_shut (sl := ⟨da, dn, dc⟩) h2).perm (List.Perm.swap _ _ _)
    -- </id>
  | off =>
    -- <off>
    refine ⟨_, _, 174, rfl, (fun w => by kernel_rfl), EC.out, ?_⟩
    refine specB_of Tryz.func174 rfl rfl (Nat.le_of_ble_eq_true rfl) (fun w F hB hF => ?_)
    dsimp only [RqF.take]
    refine hc_open (.tail .head) DqO_open ?_
    rintro ⟨da, dn, dc⟩
    unfold rqB
    dsimp only [ReqV.cs, SlV.v]
    (refine Zl rfl ?_; (refine h_box rfl rfl rfl rfl rfl rfl (fun _ => ?_)); refine Zt ?_)
    rename_i b
    refine hc_drawE (D := fun x => St w F [Blk b (.cells #[ptrV p 7, .int .i64 0, .int .i64 69632] 130 (0, 0))] x) (fun i => i == 3 || i == 5) [0, 1, 2] [3, 4, 5] (by kernel_rfl) (by kernel_rfl) rfl (fun x h => h.sub (.cons .head .nil)) rfl ?_
    (refine Zf rfl rfl rfl rfl rfl ?_; refine Zh rfl rfl rfl rfl rfl rfl rfl ?_; refine Zm rfl rfl rfl rfl rfl ?_; refine hx_nil ?_)
    refine hd_callB hB hF rfl rfl rfl rfl rfl rfl rfl rfl EC.out (.cons (.tail (.tail (.tail .head))) .nil) ((u32_all q bs at_ er mst32 E g hl hat).toB hI) (fun v M hM x h => by obtain ⟨rfl, rfl⟩ := hM; exact h.sub (.cons (.tail .head) .nil)) ?_
    rintro v M ⟨rfl, rfl⟩
    refine hd_reads [(4, _)] rfl ?_
    (refine hx_plain rfl ?_; refine h_nilCheck rfl rfl rfl rfl ?_; refine hx_nil ?_)
    refine hd_store rfl rfl rfl rfl rfl rfl IC.size (.tail (.tail .head)) rfl rfl (Nat.le_of_ble_eq_true rfl) (List.all_eq_true.1 rfl) (fun x h => h.sub (.cons (.tail (.tail .head)) .nil)) ?_
    refine hd_nil ?_
    skip
    refine hq_ret0 (.inl rfl) rfl rfl (fun _ h => ?_)
    have h2 := h.sub (.cons .head (.cons (.tail (.tail .head)) (.cons .head .nil)))
    exact (DqO_shut (sl := ⟨da, dn, dc⟩) h2).perm (List.Perm.swap _ _ _)
    -- </off>
  | len l =>
    -- <len>
    refine ⟨_, _, 174, rfl, (fun w => by kernel_rfl), EC.out, ?_⟩
    refine specB_of Tryz.func174 rfl rfl (Nat.le_of_ble_eq_true rfl) (fun w F hB hF => ?_)
    dsimp only [RqF.take]
    refine hc_open (.tail .head) DqO_open ?_
    rintro ⟨da, dn, dc⟩
    unfold rqB
    dsimp only [ReqV.cs, SlV.v]
    (refine Zl rfl ?_; (refine h_box rfl rfl rfl rfl rfl rfl (fun _ => ?_)); refine Zt ?_)
    rename_i b
    refine hc_drawE (D := fun x => St w F [Blk b (.cells #[ptrV p 8, .int .i64 1, .int .i64 l] 130 (0, 0))] x) (fun i => i == 3 || i == 5) [0, 1, 2] [3, 4, 5] (by kernel_rfl) (by kernel_rfl) rfl (fun x h => h.sub (.cons .head .nil)) rfl ?_
    (refine Zf rfl rfl rfl rfl rfl ?_; refine Zh rfl rfl rfl rfl rfl rfl rfl ?_; refine Zm rfl rfl rfl rfl rfl ?_; refine hx_nil ?_)
    refine hd_callB hB hF rfl rfl rfl rfl rfl rfl rfl rfl EC.out (.cons (.tail (.tail (.tail .head))) .nil) ((u32_all q bs at_ er mst32 E g hl hat).toB hI) (fun v M hM x h => by obtain ⟨rfl, rfl⟩ := hM; exact h.sub (.cons (.tail .head) .nil)) ?_
    rintro v M ⟨rfl, rfl⟩
    refine hd_reads [(4, _)] rfl ?_
    (refine hx_plain rfl ?_; refine h_nilCheck rfl rfl rfl rfl ?_; refine hx_nil ?_)
    refine hd_store rfl rfl rfl rfl rfl rfl IC.size (.tail (.tail .head)) rfl rfl (Nat.le_of_ble_eq_true rfl) (List.all_eq_true.1 rfl) (fun x h => h.sub (.cons (.tail (.tail .head)) .nil)) ?_
    refine hd_nil ?_
    skip
    refine hq_ret0 (.inl rfl) rfl rfl (fun _ h => ?_)
    have h2 := h.sub (.cons .head (.cons (.tail (.tail .head)) (.cons .head .nil)))
    exact (DqO_shut (sl := ⟨da, dn, dc⟩) h2).perm (List.Perm.swap _ _ _)
    -- </len>
  | path =>
    refine ⟨_, _, 177, rfl, (fun w => by kernel_rfl), EC.out, ?_⟩
    refine specB_of Tryz.func177 rfl rfl (Nat.le_of_ble_eq_true rfl) (fun w F hB hF => ?_)
    dsimp only [RqF.take]
    refine hc_open (.tail .head) DqO_open ?_
    rintro ⟨da, dn, dc⟩
    unfold rqB
    dsimp only [ReqV.cs, SlV.v]
    (refine Zl rfl ?_; (refine h_box rfl rfl rfl rfl rfl rfl (fun _ => ?_)); refine Zt ?_)
    rename_i b
    refine hc_drawE (D := fun x => St w F [Blk b (.cells #[ptrV p 9, .int .i64 384, fnV 91] 133 (0, 0))] x) (fun i => i == 5 || i == 7) [0, 1, 2, 3, 4] [5, 6, 7] (by kernel_rfl) (by kernel_rfl) rfl (fun x h => h.sub (.cons .head .nil)) rfl ?_
    (refine Zf rfl rfl rfl rfl rfl ?_; refine Zh rfl rfl rfl rfl rfl rfl rfl ?_; refine Zm rfl rfl rfl rfl rfl ?_; refine Zf rfl rfl rfl rfl rfl ?_; refine Zh rfl rfl rfl rfl rfl rfl rfl ?_; refine hx_nil ?_)
    refine hd_callB hB hF rfl rfl rfl rfl rfl rfl rfl rfl EC.out (.cons (.tail (.tail (.tail .head))) .nil) ((text_all q bs at_ er 384 E g hl hat hb).toB hI) (fun v M hM x h => by obtain ⟨rfl, rfl⟩ := hM; exact h.sub (.cons (.tail .head) .nil)) ?_
    rintro v M ⟨rfl, rfl⟩
    refine hd_reads [(6, _)] rfl ?_
    (refine hx_plain rfl ?_; refine h_nilCheck rfl rfl rfl rfl ?_; refine hx_nil ?_)
    refine hd_store rfl rfl rfl rfl rfl rfl IC.size (.tail (.tail .head)) rfl rfl (Nat.le_of_ble_eq_true rfl) (List.all_eq_true.1 rfl) (fun x h => h.sub (.cons (.tail (.tail .head)) .nil)) ?_
    refine hd_nil ?_
    skip
    refine hq_ret0 (.inl rfl) rfl rfl (fun _ h => ?_)
    have h2 := h.sub (.cons .head (.cons (.tail (.tail .head)) (.cons .head .nil)))
    exact (DqO_shut (sl := ⟨da, dn, dc⟩) h2).perm (List.Perm.swap _ _ _)
  | name d =>
    cases d with
    | false =>
      refine ⟨_, _, 177, rfl, (fun w => by kernel_rfl), EC.out, ?_⟩
      refine specB_of Tryz.func177 rfl rfl (Nat.le_of_ble_eq_true rfl) (fun w F hB hF => ?_)
      dsimp only [RqF.take]
      refine hc_open (.tail .head) DqO_open ?_
      rintro ⟨da, dn, dc⟩
      unfold rqB
      dsimp only [ReqV.cs, SlV.v]
      (refine Zl rfl ?_; (refine h_box rfl rfl rfl rfl rfl rfl (fun _ => ?_)); refine Zt ?_)
      rename_i b
      refine hc_drawE (D := fun x => St w F [Blk b (.cells #[ptrV p 10, .int .i64 23, fnV 89] 133 (0, 0))] x) (fun i => i == 5 || i == 7) [0, 1, 2, 3, 4] [5, 6, 7] (by kernel_rfl) (by kernel_rfl) rfl (fun x h => h.sub (.cons .head .nil)) rfl ?_
      (refine Zf rfl rfl rfl rfl rfl ?_; refine Zh rfl rfl rfl rfl rfl rfl rfl ?_; refine Zm rfl rfl rfl rfl rfl ?_; refine Zf rfl rfl rfl rfl rfl ?_; refine Zh rfl rfl rfl rfl rfl rfl rfl ?_; refine hx_nil ?_)
      refine hd_callB hB hF rfl rfl rfl rfl rfl rfl rfl rfl EC.out (.cons (.tail (.tail (.tail .head))) .nil) ((text_all q bs at_ er 23 E g hl hat hb).toB hI) (fun v M hM x h => by obtain ⟨rfl, rfl⟩ := hM; exact h.sub (.cons (.tail .head) .nil)) ?_
      rintro v M ⟨rfl, rfl⟩
      refine hd_reads [(6, _)] rfl ?_
      (refine hx_plain rfl ?_; refine h_nilCheck rfl rfl rfl rfl ?_; refine hx_nil ?_)
      refine hd_store rfl rfl rfl rfl rfl rfl IC.size (.tail (.tail .head)) rfl rfl (Nat.le_of_ble_eq_true rfl) (List.all_eq_true.1 rfl) (fun x h => h.sub (.cons (.tail (.tail .head)) .nil)) ?_
      refine hd_nil ?_
      skip
      refine hq_ret0 (.inl rfl) rfl rfl (fun _ h => ?_)
      have h2 := h.sub (.cons .head (.cons (.tail (.tail .head)) (.cons .head .nil)))
      exact (DqO_shut (sl := ⟨da, dn, dc⟩) h2).perm (List.Perm.swap _ _ _)
    | true =>
      refine ⟨_, _, 177, rfl, (fun w => by kernel_rfl), EC.out, ?_⟩
      refine specB_of Tryz.func177 rfl rfl (Nat.le_of_ble_eq_true rfl) (fun w F hB hF => ?_)
      dsimp only [RqF.take]
      refine hc_open (.tail .head) DqO_open ?_
      rintro ⟨da, dn, dc⟩
      unfold rqB
      dsimp only [ReqV.cs, SlV.v]
      (refine Zl rfl ?_; (refine h_box rfl rfl rfl rfl rfl rfl (fun _ => ?_)); refine Zt ?_)
      rename_i b
      refine hc_drawE (D := fun x => St w F [Blk b (.cells #[ptrV p 10, .int .i64 23, fnV 90] 133 (0, 0))] x) (fun i => i == 5 || i == 7) [0, 1, 2, 3, 4] [5, 6, 7] (by kernel_rfl) (by kernel_rfl) rfl (fun x h => h.sub (.cons .head .nil)) rfl ?_
      (refine Zf rfl rfl rfl rfl rfl ?_; refine Zh rfl rfl rfl rfl rfl rfl rfl ?_; refine Zm rfl rfl rfl rfl rfl ?_; refine Zf rfl rfl rfl rfl rfl ?_; refine Zh rfl rfl rfl rfl rfl rfl rfl ?_; refine hx_nil ?_)
      refine hd_callB hB hF rfl rfl rfl rfl rfl rfl rfl rfl EC.out (.cons (.tail (.tail (.tail .head))) .nil) ((text_all q bs at_ er 23 E g hl hat hb).toB hI) (fun v M hM x h => by obtain ⟨rfl, rfl⟩ := hM; exact h.sub (.cons (.tail .head) .nil)) ?_
      rintro v M ⟨rfl, rfl⟩
      refine hd_reads [(6, _)] rfl ?_
      (refine hx_plain rfl ?_; refine h_nilCheck rfl rfl rfl rfl ?_; refine hx_nil ?_)
      refine hd_store rfl rfl rfl rfl rfl rfl IC.size (.tail (.tail .head)) rfl rfl (Nat.le_of_ble_eq_true rfl) (List.all_eq_true.1 rfl) (fun x h => h.sub (.cons (.tail (.tail .head)) .nil)) ?_
      refine hd_nil ?_
      skip
      refine hq_ret0 (.inl rfl) rfl rfl (fun _ h => ?_)
      have h2 := h.sub (.cons .head (.cons (.tail (.tail .head)) (.cons .head .nil)))
      exact (DqO_shut (sl := ⟨da, dn, dc⟩) h2).perm (List.Perm.swap _ _ _)
  | id2 =>
    -- <id2>
    refine ⟨_, _, 171, rfl, (fun w => by kernel_rfl), EC.out, ?_⟩
    refine specB_of Tryz.func171 rfl rfl (Nat.le_of_ble_eq_true rfl) (fun w F hB hF => ?_)
    dsimp only [RqF.take]
    refine hc_open (.tail .head) DqO_open ?_
    rintro ⟨da, dn, dc⟩
    unfold rqB
    dsimp only [ReqV.cs, SlV.v]
    (refine Zl rfl ?_; (refine h_box rfl rfl rfl rfl rfl rfl (fun _ => ?_)); refine Zt ?_)
    rename_i b
    refine hc_drawE (D := fun x => St w F [Blk b (.cells #[ptrV p 6] 128 (0, 0))] x) (fun i => i == 3 || i == 5) [0, 1, 2] [3, 4, 5] (by kernel_rfl) (by kernel_rfl) rfl (fun x h => h.sub (.cons .head .nil)) rfl ?_
    (refine Zf rfl rfl rfl rfl rfl ?_; refine Zh rfl rfl rfl rfl rfl rfl rfl ?_; refine Zm rfl rfl rfl rfl rfl ?_; refine hx_nil ?_)
    refine hd_callB hB hF rfl rfl rfl rfl rfl rfl rfl rfl EC.out (.cons (.tail (.tail (.tail .head))) .nil) ((u64_all q bs at_ er mst64 E g hl hat).toB hI) (fun v M hM x h => by obtain ⟨rfl, rfl⟩ := hM; exact h.sub (.cons (.tail .head) .nil)) ?_
    rintro v M ⟨rfl, rfl⟩
    refine hd_reads [(4, _)] rfl ?_
    (refine hx_plain rfl ?_; refine h_nilCheck rfl rfl rfl rfl ?_; refine hx_nil ?_)
    refine hd_store rfl rfl rfl rfl rfl rfl IC.size (.tail (.tail .head)) rfl rfl (Nat.le_of_ble_eq_true rfl) (List.all_eq_true.1 rfl) (fun x h => h.sub (.cons (.tail (.tail .head)) .nil)) ?_
    refine hd_nil ?_
    skip
    refine hq_ret0 (.inl rfl) rfl rfl (fun _ h => ?_)
    have h2 := h.sub (.cons .head (.cons (.tail (.tail .head)) (.cons .head .nil)))
    exact (DqO_shut (sl := ⟨da, dn, dc⟩) h2).perm (List.Perm.swap _ _ _)
    -- </id2>
  | name2 =>
    refine ⟨_, _, 177, rfl, (fun w => by kernel_rfl), EC.out, ?_⟩
    refine specB_of Tryz.func177 rfl rfl (Nat.le_of_ble_eq_true rfl) (fun w F hB hF => ?_)
    dsimp only [RqF.take]
    refine hc_open (.tail .head) DqO_open ?_
    rintro ⟨da, dn, dc⟩
    unfold rqB
    dsimp only [ReqV.cs, SlV.v]
    (refine Zl rfl ?_; (refine h_box rfl rfl rfl rfl rfl rfl (fun _ => ?_)); refine Zt ?_)
    rename_i b
    refine hc_drawE (D := fun x => St w F [Blk b (.cells #[ptrV p 11, .int .i64 23, fnV 89] 133 (0, 0))] x) (fun i => i == 5 || i == 7) [0, 1, 2, 3, 4] [5, 6, 7] (by kernel_rfl) (by kernel_rfl) rfl (fun x h => h.sub (.cons .head .nil)) rfl ?_
    (refine Zf rfl rfl rfl rfl rfl ?_; refine Zh rfl rfl rfl rfl rfl rfl rfl ?_; refine Zm rfl rfl rfl rfl rfl ?_; refine Zf rfl rfl rfl rfl rfl ?_; refine Zh rfl rfl rfl rfl rfl rfl rfl ?_; refine hx_nil ?_)
    refine hd_callB hB hF rfl rfl rfl rfl rfl rfl rfl rfl EC.out (.cons (.tail (.tail (.tail .head))) .nil) ((text_all q bs at_ er 23 E g hl hat hb).toB hI) (fun v M hM x h => by obtain ⟨rfl, rfl⟩ := hM; exact h.sub (.cons (.tail .head) .nil)) ?_
    rintro v M ⟨rfl, rfl⟩
    refine hd_reads [(6, _)] rfl ?_
    (refine hx_plain rfl ?_; refine h_nilCheck rfl rfl rfl rfl ?_; refine hx_nil ?_)
    refine hd_store rfl rfl rfl rfl rfl rfl IC.size (.tail (.tail .head)) rfl rfl (Nat.le_of_ble_eq_true rfl) (List.all_eq_true.1 rfl) (fun x h => h.sub (.cons (.tail (.tail .head)) .nil)) ?_
    refine hd_nil ?_
    skip
    refine hq_ret0 (.inl rfl) rfl rfl (fun _ h => ?_)
    have h2 := h.sub (.cons .head (.cons (.tail (.tail .head)) (.cons .head .nil)))
    exact (DqO_shut (sl := ⟨da, dn, dc⟩) h2).perm (List.Perm.swap _ _ _)
  | data =>
    refine ⟨_, _, 185, rfl, (fun w => by kernel_rfl), EC.out, ?_⟩
    refine specB_of Tryz.func185 rfl rfl (Nat.le_of_ble_eq_true rfl) (fun w F hB hF => ?_)
    dsimp only [RqF.take]
    refine hc_open (.tail .head) DqO_open ?_
    rintro ⟨da, dn, dc⟩
    unfold rqB
    dsimp only [ReqV.cs, SlV.v]
    (refine Zl rfl ?_; (refine h_box rfl rfl rfl rfl rfl rfl (fun _ => ?_)); refine Zt ?_)
    rename_i b
    refine hc_drawE (D := fun x => St w F [Blk b (.cells #[ptrV p 12, .int .i64 1] 136 (0, 0))] x) (fun i => i == 3 || i == 5) [0, 1, 2] [3, 4, 5] (by kernel_rfl) (by kernel_rfl) rfl (fun x h => h.sub (.cons .head .nil)) rfl ?_
    (refine Zf rfl rfl rfl rfl rfl ?_; refine Zh rfl rfl rfl rfl rfl rfl rfl ?_; refine Zm rfl rfl rfl rfl rfl ?_; refine hx_nil ?_)
    refine hd_callB hB hF rfl rfl rfl rfl rfl rfl rfl rfl EC.out (.cons (.tail (.tail (.tail .head))) .nil) ((bytes_all q bs at_ er 1024 E g hl hat hb).toB hI) (fun v M hM x h => by subst hM; exact h.sub (.cons (.tail (.tail .head)) .nil)) ?_
    rintro v M rfl
    refine hd_reads [(4, _)] rfl ?_
    (refine hx_plain rfl ?_; refine h_nilCheck rfl rfl rfl rfl ?_; refine hx_nil ?_)
    refine hd_know rfl rfl (fun _ h => St.rowV_shapeS h .head) ?_
    rintro ⟨a2, c2, rfl⟩
    refine hd_store rfl rfl rfl rfl rfl rfl IC.size (.tail (.tail (.tail .head))) rfl rfl (Nat.le_of_ble_eq_true rfl) (List.all_eq_true.1 rfl) (fun x h => h.sub (.cons (.tail (.tail (.tail .head))) .nil)) ?_
    refine hd_nil ?_
    skip
    refine hq_ret0 (.inl rfl) rfl rfl (fun _ h => ?_)
    have h2 := h.sub (.cons .head (.cons .head (.cons .head .nil)))
    exact (DqO_shut (sl := ⟨a2, (BodyR bs at_ er 1024).1.length, c2⟩) h2).perm (List.Perm.swap _ _ _)
end Go.Proofs.YtfolhmlldoepfaaGreatDoor
namespace Go.Proofs.YtfolhmlldoepfaaGreatDoor
open Go Go.Proofs Go.RowKit
set_option maxRecDepth 4000
/-- Of a datagram: why it is none. -/
def openE (bs : List Int) (mg : ByteArray) : Int :=
  if 1400 < bs.length then 49 else if bs.length < 4 ∨ ((strOf (bs.take 4)).toList == mg.toList) = false then 41
  else if bs.length < 12 ∨ N8 (bs.drop (bs.length - 8)) 0 ≠ sumR off0 (bs.take (bs.length - 8)) then 48 else 0
def midB (bs : List Int) : List Int := (bs.drop 4).take (bs.length - 12)
set_option maxHeartbeats 4000000 in
theorem opened_spec {w1 : World} {E : Addr} {g : Nat} (hI : Glo (gl E) g w1) {v : Value} {bs : List Int} (hr : Rd byteE w1 v bs) (mg : ByteArray) : SpecB Tryz.prog w1 70 [v, .string mg] []
    (fun u M => if openE bs mg = 0 then ∃ p, u = .tuple #[ptrV p 0, .int .i64 0] ∧ M = [RdrX p (midB bs) 0 0] else u = .tuple #[.pointer none, .int .i64 (openE bs mg)] ∧ M = []) := by
  have h0 := hr
  obtain ⟨a1, c1, rfl, l1, m1, k1⟩ := hr
  unfold maxLen at m1
  refine specB_of Tryz.func70 rfl rfl (Nat.le_of_ble_eq_true rfl) (fun w F hB hF => ?_)
  have hrd : ∀ x L, St w F L x → Rd byteE x (.slice a1 bs.length c1) bs := fun x L h => h0.but (h.butB hB hF)
  by_cases q1 : 1400 < bs.length
  · have e1 : openE bs mg = 49 := if_pos q1
    rw [e1]
    (refine Zv rfl rfl rfl rfl rfl ?_; refine Zn rfl rfl rfl rfl rfl ?_; refine hc_seq ?_; refine hc_block ?_; refine Zw rfl rfl rfl rfl rfl ?_; refine hx_plain rfl ?_; refine h_len_slice rfl rfl rfl UC.out rfl rfl rfl ?_; refine Zc rfl rfl rfl rfl rfl rfl rfl ?_; refine Zn rfl rfl rfl rfl rfl ?_; refine hc_condDT rfl (by omega) ?_; refine Zv rfl rfl rfl rfl rfl ?_; refine Zn rfl rfl rfl rfl rfl ?_; refine hc_ret ?_; refine hq_ret_block ?_; refine hq_ret_then ?_)
    exact hq_ret2 (.inr rfl) rfl rfl rfl ⟨rfl, rfl⟩ (fun _ h => h.emp)
  by_cases q2 : bs.length < 4
  · have e1 : openE bs mg = 41 := by unfold openE; rw [if_neg q1, if_pos (.inl q2)]
    rw [e1]
    (refine Zv rfl rfl rfl rfl rfl ?_; refine Zn rfl rfl rfl rfl rfl ?_; refine hc_seq ?_; refine hc_block ?_; refine Zw rfl rfl rfl rfl rfl ?_; refine hx_plain rfl ?_; refine h_len_slice rfl rfl rfl UC.out rfl rfl rfl ?_; refine Zc rfl rfl rfl rfl rfl rfl rfl ?_; refine Zn rfl rfl rfl rfl rfl ?_; refine hc_condDF rfl (by omega) ?_; refine Zw rfl rfl rfl rfl rfl ?_; refine hx_plain rfl ?_; refine h_len_slice rfl rfl rfl UC.out rfl rfl rfl ?_; refine Zc rfl rfl rfl rfl rfl rfl rfl ?_; refine Zm rfl rfl rfl rfl rfl ?_; refine hx_gT rfl rfl rfl (by omega) ?_; (iterate 5 (refine hx_skip rfl rfl rfl rfl rfl rfl ?_)); refine Zq rfl rfl rfl rfl rfl rfl ?_; refine Zn rfl rfl rfl rfl rfl ?_; refine hc_condT rfl ?_; refine Zv rfl rfl rfl rfl rfl ?_; refine Zn rfl rfl rfl rfl rfl ?_; refine hc_ret ?_; refine hq_ret_block ?_; refine hq_ret_then ?_)
    exact hq_ret2 (.inr rfl) rfl rfl rfl ⟨rfl, rfl⟩ (fun _ h => h.emp)
  have hne : bs ≠ [] := by
    intro e
    rw [e] at q2
    exact q2 (by decide)
  obtain ⟨g1, o1, rfl, r1⟩ := k1.resolve_left hne
  (refine Zv rfl rfl rfl rfl rfl ?_; refine Zn rfl rfl rfl rfl rfl ?_; refine hc_seq ?_; refine hc_block ?_; refine Zw rfl rfl rfl rfl rfl ?_; refine hx_plain rfl ?_; refine h_len_slice rfl rfl rfl UC.out rfl rfl rfl ?_; refine Zc rfl rfl rfl rfl rfl rfl rfl ?_; refine Zn rfl rfl rfl rfl rfl ?_; refine hc_condDF rfl (by omega) ?_; refine Zw rfl rfl rfl rfl rfl ?_; refine hx_plain rfl ?_; refine h_len_slice rfl rfl rfl UC.out rfl rfl rfl ?_; refine Zc rfl rfl rfl rfl rfl rfl rfl ?_; refine Zm rfl rfl rfl rfl rfl ?_; refine hx_gF rfl rfl rfl (by omega) ?_; refine hx_yes rfl rfl rfl ?_; refine h_move rfl rfl rfl rfl ?_; refine hx_yes rfl rfl rfl ?_; refine h_sliceTo rfl rfl rfl UC.out IC.size (by omega) rfl rfl ?_; refine hx_yes rfl rfl rfl ?_)
  refine h_toString rfl rfl UC.out UC.out UC.out (fun w' h => (hrd w' _ h).takeN (n := 4) (by omega)) rfl rfl ?_
  (refine hx_yes rfl rfl rfl ?_; refine h_move rfl rfl rfl rfl ?_; refine hx_yes rfl rfl rfl ?_; refine h_cmpS rfl rfl rfl rfl rfl rfl ?_; refine Zp rfl rfl rfl rfl rfl rfl ?_; refine Zn rfl rfl rfl rfl rfl ?_; refine hc_cond rfl (fun hc => ?_) (fun hc => ?_); refine Zv rfl rfl rfl rfl rfl ?_; refine Zn rfl rfl rfl rfl rfl ?_; refine hc_ret ?_; refine hq_ret_block ?_; refine hq_ret_then ?_; rotate_left; refine hc_seq ?_; rotate_left)
  · have e1 : openE bs mg = 41 := by unfold openE; rw [if_neg q1, if_pos (.inr (by simpa using hc))]
    rw [e1]
    exact hq_ret2 (.inr rfl) rfl rfl rfl ⟨rfl, rfl⟩ (fun _ h => h.emp)
  have hq2 : ¬ (bs.length < 4 ∨ ((strOf (bs.take 4)).toList == mg.toList) = false) := fun h => h.elim q2 (fun h => by rw [h] at hc; cases hc)
  by_cases q3 : bs.length < 12
  · have e1 : openE bs mg = 48 := by unfold openE; rw [if_neg q1, if_neg hq2, if_pos (.inl q3)]
    rw [e1]
    refine hc_drawO [0, 1, 2, 3, 4, 5, 6, 7, 8, 11, 12, 13, 14, 15, 9, 10, 16, 17, 18, 19] (fun _ => false) (by kernel_rfl) (by kernel_rfl) rfl ?_
    (refine Zm rfl rfl rfl rfl rfl ?_; refine hx_plain rfl ?_; refine h_len_slice rfl rfl rfl UC.out rfl rfl rfl ?_; refine Zc rfl rfl rfl rfl rfl rfl rfl ?_; refine Zm rfl rfl rfl rfl rfl ?_; refine hx_gT rfl rfl rfl (by omega) ?_; (iterate 14 (refine hx_skip rfl rfl rfl rfl rfl rfl ?_)); refine Zq rfl rfl rfl rfl rfl rfl ?_; refine Zn rfl rfl rfl rfl rfl ?_; refine hc_condT rfl ?_; refine Zv rfl rfl rfl rfl rfl ?_; refine Zn rfl rfl rfl rfl rfl ?_; refine hc_ret ?_; refine hq_ret_block ?_; refine hq_ret_then ?_)
    exact hq_ret2 (.inr rfl) rfl rfl rfl ⟨rfl, rfl⟩ (fun _ h => h.emp)
  have hn8 : ((bs.length : Int) - 8).toNat = bs.length - 8 := by omega
  have hd8 : (bs.drop (bs.length - 8)).length = 8 := by rw [List.length_drop]; omega
  refine hc_drawO [0, 1, 2, 3, 4, 5, 6, 7, 8, 11, 12, 13, 14, 15, 9, 10, 16, 17, 18, 19] (fun _ => false) (by kernel_rfl) (by kernel_rfl) rfl ?_
  (refine Zm rfl rfl rfl rfl rfl ?_; refine hx_plain rfl ?_; refine h_len_slice rfl rfl rfl UC.out rfl rfl rfl ?_; refine Zc rfl rfl rfl rfl rfl rfl rfl ?_; refine Zm rfl rfl rfl rfl rfl ?_; refine hx_gF rfl rfl rfl (by omega) ?_; (iterate 2 (refine hx_yes rfl rfl rfl ?_; refine h_move rfl rfl rfl rfl ?_)); refine hx_yes rfl rfl rfl ?_; refine h_len_slice rfl rfl rfl UC.out rfl rfl rfl ?_; refine hx_yes rfl rfl rfl ?_; refine h_arithI rfl rfl rfl rfl (by omega) rfl rfl ?_; refine hx_yes rfl rfl rfl ?_)
  refine h_sliceFrom rfl rfl rfl UC.out IC.size (by omega) rfl rfl ?_
  rw [hn8]
  simp only [Option.map_some, addr_sub]
  ((iterate 2 (refine hx_yes rfl rfl rfl ?_; refine h_move rfl rfl rfl rfl ?_)); refine hx_yes rfl rfl rfl ?_; refine h_len_slice rfl rfl rfl UC.out rfl rfl rfl ?_; refine hx_yes rfl rfl rfl ?_; refine h_arithI rfl rfl rfl rfl (by omega) rfl rfl ?_; refine hx_yes rfl rfl rfl ?_; refine h_sliceTo rfl rfl rfl UC.out IC.size (by omega) rfl rfl ?_; refine hx_yes rfl rfl rfl ?_)
  rw [hn8]
  refine h_callW (post := fun u M => ∃ p, u = .pointer (some ⟨p, 0, none⟩) ∧ M = [RdrO p (bs.drop (bs.length - 8)) 0 0 0]) rfl rfl rfl rfl rfl rfl rfl rfl EC.out (fun w' h => newReader_makes ((hrd w' _ h).dropN (i := bs.length - 8) (by omega) rfl) (by omega)) ?_
  rintro u M ⟨p, rfl, rfl⟩
  (refine hx_yes rfl rfl rfl ?_)
  refine hx1_conv rfl rfl (fun _ h => RdrO.toX h) ?_
  refine h_callB hB hF rfl rfl rfl rfl rfl rfl rfl rfl EC.out (.cons .head .nil) ((sum_all p (bs.drop (bs.length - 8)) 0 0 E g (by omega) (by omega)).toB hI) ?_
  rintro u M ⟨rfl, rfl⟩
  (refine hx_yes rfl rfl rfl ?_)
  refine h_callRd rfl rfl rfl rfl rfl rfl EC.out (fun w' h => sum_reads ((hrd w' _ h).takeN (n := bs.length - 8) (by omega))) ?_
  have e8 : SumR (bs.drop (bs.length - 8)) 0 0 = (N8 (bs.drop (bs.length - 8)) 0, 8, 0) := by unfold SumR; rw [if_neg (by simp), if_neg (by omega)]
  rw [e8]
  (refine hx_yes rfl rfl rfl ?_; refine h_cmp rfl rfl rfl rfl rfl rfl ?_; refine Zp rfl rfl rfl rfl rfl rfl ?_; refine Zn rfl rfl rfl rfl rfl ?_; refine hc_condD rfl (fun hc => ?_) (fun hc => ?_); refine Zv rfl rfl rfl rfl rfl ?_; refine Zn rfl rfl rfl rfl rfl ?_; refine hc_ret ?_; refine hq_ret_block ?_; refine hq_ret_then ?_; rotate_left; refine hc_skip ?_; refine hq_norm_block ?_; refine hq_then ?_; refine Zw rfl rfl rfl rfl rfl ?_; refine Zm rfl rfl rfl rfl rfl ?_; refine hx_plain rfl ?_; refine h_len_slice rfl rfl rfl UC.out rfl rfl rfl ?_; refine hx_plain rfl ?_; refine h_arithI rfl rfl rfl rfl (by omega) rfl rfl ?_; refine hx_plain rfl ?_; rotate_left)
  · have e1 : openE bs mg = 48 := by unfold openE; rw [if_neg q1, if_neg hq2, if_pos (.inr hc)]
    rw [e1]
    exact hq_ret2 (.inr rfl) rfl rfl rfl ⟨rfl, rfl⟩ (fun _ h => h.emp)
  have e1 : openE bs mg = 0 := by unfold openE; rw [if_neg q1, if_neg hq2, if_neg (fun h => h.elim q3 hc)]
  rw [e1]
  skip
  refine h_sliceFT rfl rfl rfl rfl UC.out IC.size (by omega) rfl rfl ?_
  rw [hn8]
  simp only [Option.map_some, addr_sub]
  (refine hx_plain rfl ?_)
  refine h_callW (post := fun u M => ∃ p, u = .pointer (some ⟨p, 0, none⟩) ∧ M = [RdrO p (midB bs) 0 0 0]) rfl rfl rfl rfl rfl rfl rfl rfl EC.out (fun w' h => newReader_makes (by have := (hrd w' _ h).sub (i := 4) (j := bs.length - 8) (by omega) (by omega); rwa [show bs.length - 8 - 4 = bs.length - 12 by omega] at this) (by unfold midB; rw [List.length_take, List.length_drop]; omega)) ?_
  rintro u M ⟨p2, rfl, rfl⟩
  (refine Za rfl rfl rfl rfl rfl ?_; refine Zn rfl rfl rfl rfl rfl ?_; refine hc_ret ?_)
  refine hq_ret2 (.inr rfl) rfl rfl rfl ⟨p2, rfl, rfl⟩ (fun _ h => RdrO.toX (h.sub (.cons .head .nil)))
end Go.Proofs.YtfolhmlldoepfaaGreatDoor
namespace Go.Proofs.YtfolhmlldoepfaaGreatDoor
open Go Go.Proofs Go.RowKit
set_option maxRecDepth 4000
theorem u32_at {bs : List Int} {at_ : Nat} {er most : Int} (h : at_ ≤ bs.length) : (U32R bs at_ er most).2.1 ≤ bs.length := by
  unfold U32R
  repeat' split
  all_goals (dsimp only; omega)
theorem u64_at {bs : List Int} {at_ : Nat} {er most : Int} (h : at_ ≤ bs.length) : (U64R bs at_ er most).2.1 ≤ bs.length := by
  unfold U64R
  repeat' split
  all_goals (dsimp only; omega)
theorem flag_at {bs : List Int} {at_ : Nat} {er : Int} (h : at_ ≤ bs.length) : (FlagR bs at_ er).2.1 ≤ bs.length := by
  unfold FlagR
  repeat' split
  all_goals (dsimp only; omega)
theorem body_at' {bs : List Int} {at_ : Nat} {er most : Int} (h : at_ ≤ bs.length) : (BodyR bs at_ er most).2.1 ≤ bs.length := by
  unfold BodyR
  split
  · exact h
  · split
    · rename_i h2
      exact (bodyE_ok h2).2.2.2.1
    · exact h
theorem midB_len (bs : List Int) : (midB bs).length ≤ bs.length := by unfold midB; rw [List.length_take, List.length_drop]; omega
theorem midB_byts {bs : List Int} (h : Byts bs) : Byts (midB bs) := fun x hx => h x (List.mem_of_mem_drop (List.mem_of_mem_take hx))
def takeQs (bs : List Int) (x : TkQ) (fs : List RqF) : TkQ := fs.foldl (fun x f => f.take bs x) x
theorem takeQ_at {bs : List Int} {x : TkQ} (h : x.at_ ≤ bs.length) (f : RqF) : (f.take bs x).at_ ≤ bs.length := by
  cases f with
  | id | id2 => exact u64_at h
  | off | len l => exact u32_at h
  | _ => exact body_at' h
theorem takeQs_at {bs : List Int} : ∀ (fs : List RqF) {x : TkQ}, x.at_ ≤ bs.length → (takeQs bs x fs).at_ ≤ bs.length
  | [], _, h => h
  | f :: fs, _, h => takeQs_at fs (takeQ_at h f)
def mgQ : ByteArray := ⟨#[65, 78, 81, 49]⟩
def mgR : ByteArray := ⟨#[65, 78, 82, 49]⟩
end Go.Proofs.YtfolhmlldoepfaaGreatDoor
namespace Go.Proofs.YtfolhmlldoepfaaGreatDoor
open Go Go.Proofs Go.RowKit
set_option maxRecDepth 4000
theorem SpecB.know {P : Program} {w1 : World} {f : FuncId} {args : List Value} {pre : List Asn} {post : Value → List Asn → Prop} {φ : Value → Prop} (h : SpecB P w1 f args pre post) (hk : ∀ v M w0 F w, post v M → St w0 F M w → φ v) : SpecB P w1 f args pre (fun v M => φ v ∧ post v M) := fun w F hs hB hF => by
  refine (h w F hs hB hF).mono ?_
  rintro en w' ⟨v, M, e, hp, hst⟩
  exact ⟨v, M, e, ⟨hk v M _ _ _ hp hst, hp⟩, hst⟩
def ReqV.z : ReqV := ⟨0, 0, 0, 0, 0, 0, 0, 0, 0, ⟨#[]⟩, ⟨#[]⟩, ⟨#[]⟩, ⟨none, 0, 0⟩⟩
/-- The head of a request, as it is read. -/
def hdQ0 (m : List Int) : TkQ :=
  let a := U32R m 0 0 mst32
  let b := U64R m a.2.1 a.2.2 mst64
  let c := U64R m b.2.1 b.2.2 mst64
  let d := U64R m c.2.1 c.2.2 mst64
  let e := U32R m d.2.1 d.2.2 mst32
  ⟨⟨a.1, b.1, c.1, d.1, e.1, 0, 0, 0, 0, ⟨#[]⟩, ⟨#[]⟩, ⟨#[]⟩, ⟨none, 0, 0⟩⟩, [], e.2.1, e.2.2⟩
def TkQ.fin (y : TkQ) : ReqV := { y.r with dv := ⟨none, y.ds.length, 0⟩ }
def finQ (m : List Int) (y : TkQ) : ReqV × List Int × Int :=
  if CloseR m y.at_ y.er ≠ 0 then (.z, [], CloseR m y.at_ y.er) else if y.fin.chk ≠ 0 then (.z, [], y.fin.chk) else (y.fin, y.ds, 0)
/-- A request read of bytes: the request, its data, the error. -/
def decQ (bs : List Int) : ReqV × List Int × Int :=
  if openE bs mgQ ≠ 0 then (.z, [], openE bs mgQ) else if (hdQ0 (midB bs)).er ≠ 0 then (.z, [], (hdQ0 (midB bs)).er) else if (hdQ0 (midB bs)).r.head ≠ 0 then (.z, [], (hdQ0 (midB bs)).r.head)
  else finQ (midB bs) (takeQs (midB bs) (hdQ0 (midB bs)) (rqFs (hdQ0 (midB bs)).r.op))
theorem ReqV.ok_dv (r : ReqV) (sl : SlV) (h : sl.len = r.dv.len) (f : RqF) : f.ok { r with dv := sl } = f.ok r := by
  cases f with
  | name d => cases d <;> rfl
  | data => simp only [RqF.ok, h]
  | _ => rfl
theorem ReqV.chk_dv (r : ReqV) (sl : SlV) (h : sl.len = r.dv.len) : ({ r with dv := sl } : ReqV).chk = r.chk := by
  have hz : ∀ (fs : List RqF) (q : ReqV) (s2 : SlV), s2.len = q.dv.len → (clrAll { q with dv := s2 } fs).zeroB = (clrAll q fs).zeroB := by
    intro fs
    induction fs with
    | nil =>
      intro q s2 e
      obtain ⟨_, n, _⟩ := s2
      obtain ⟨_, _, _, _, _, _, _, _, _, _, _, _, ⟨_, n2, _⟩⟩ := q
      obtain rfl : n = n2 := e
      rfl
    | cons f fs ih =>
      intro q s2 e
      show (clrAll (f.clr { q with dv := s2 }) fs).zeroB = (clrAll (f.clr q) fs).zeroB
      cases f with
      | data => rfl
      | id => exact ih { q with id := 0 } s2 e
      | off => exact ih { q with off := 0 } s2 e
      | len l => exact ih { q with len := 0 } s2 e
      | path => exact ih { q with path := ⟨#[]⟩ } s2 e
      | name d => exact ih { q with name := ⟨#[]⟩ } s2 e
      | id2 => exact ih { q with id2 := 0 } s2 e
      | name2 => exact ih { q with name2 := ⟨#[]⟩ } s2 e
  unfold ReqV.chk ReqV.good ReqV.head
  dsimp only
  rw [hz _ r sl h, show ((rqFs r.op).all fun f => f.ok { r with dv := sl }) = ((rqFs r.op).all fun f => f.ok r) from by congr 1; funext f; exact r.ok_dv sl h f]
set_option maxHeartbeats 8000000 in
theorem decodeRequest_spec {w1 : World} {E : Addr} {g : Nat} (hI : Glo (gl E) g w1) (hk : AskF w1) {v : Value} {bs : List Int} (hr : Rd byteE w1 v bs) (hb : Byts bs) : SpecB Tryz.prog w1 38 [v] []
    (fun u M => ∃ sl : SlV, u = .tuple #[.agg ({ (decQ bs).1 with dv := sl } : ReqV).cs, .int .i64 (decQ bs).2.2] ∧ M = [RowV byteE 5 sl.v (decQ bs).2.1]) := by
  refine specB_of Tryz.func38 rfl rfl (Nat.le_of_ble_eq_true rfl) (fun w F hB hF => ?_)
  have hmb := midB_byts hb
  (refine Zl rfl ?_; (refine h_alloc rfl rfl IC.zero rfl rfl rfl (fun _ => ?_)); refine Zn rfl rfl rfl rfl rfl ?_; refine Zw rfl rfl rfl rfl rfl ?_; refine hx_plain rfl ?_)
  refine h_callB hB hF rfl rfl rfl rfl rfl rfl rfl rfl EC.out .nil (opened_spec hI hr mgQ) ?_
  intro u M hu
  by_cases q1 : openE bs mgQ = 0
  case neg =>
    rw [if_neg q1] at hu
    obtain ⟨rfl, rfl⟩ := hu
    have e1 : decQ bs = (.z, [], openE bs mgQ) := if_pos q1
    rw [e1]
    (refine Zm rfl rfl rfl rfl rfl ?_; (iterate 2 (refine hx_plain rfl ?_; refine h_extract rfl rfl rfl rfl rfl ?_)); refine Za rfl rfl rfl rfl rfl ?_; refine Zn rfl rfl rfl rfl rfl ?_; refine hc_seq ?_; refine Zw rfl rfl rfl rfl rfl ?_; refine Zc rfl rfl rfl rfl rfl rfl rfl ?_; refine Zt ?_; refine hc_condDT rfl (by omega) ?_; refine Zl rfl ?_; refine h_build rfl inferInstance rfl rfl rfl rfl ?_; refine Zm rfl rfl rfl rfl rfl ?_; refine hx_plain rfl ?_; refine h_storeAll rfl rfl rfl rfl rfl rfl IC.size .head rfl rfl rfl (List.all_eq_true.1 rfl) ?_; refine Zn rfl rfl rfl rfl rfl ?_; refine hc_ret ?_; refine hq_ret_then ?_)
    exact hq_R2 (.inr rfl) rfl (rv_cell rfl .head UC.out rfl IC.size) (rv_tmp rfl) ⟨⟨none, 0, 0⟩, rfl, rfl⟩ (fun _ h => St.rowV_nil h.emp)
  rw [if_pos q1] at hu
  obtain ⟨p, rfl, rfl⟩ := hu
  obtain ⟨m, hm⟩ : ∃ m, midB bs = m := ⟨_, rfl⟩
  have hml : m.length ≤ 140737488355200 := by
    have h1 := midB_len bs
    rw [hm] at h1
    unfold openE at q1
    split at q1
    · cases q1
    · omega
  rw [hm] at hmb ⊢
  obtain ⟨x0, hx0⟩ : ∃ x0, hdQ0 m = x0 := ⟨_, rfl⟩
  have e1 : decQ bs = if x0.er ≠ 0 then (.z, [], x0.er) else if x0.r.head ≠ 0 then (.z, [], x0.r.head) else finQ m (takeQs m x0 (rqFs x0.r.op)) := by
    unfold decQ
    rw [hm, hx0, if_neg (fun h => h q1)]
  rw [e1]
  clear e1
  unfold hdQ0 at hx0
  dsimp only at hx0
  obtain ⟨⟨va, pa, ea⟩, ha⟩ : ∃ a, U32R m 0 0 mst32 = a := ⟨_, rfl⟩
  have ga : pa ≤ m.length := by have := u32_at (er := 0) (most := mst32) (Nat.zero_le m.length); rwa [ha] at this
  rw [ha] at hx0
  dsimp only at hx0
  obtain ⟨⟨vb, pb, eb⟩, hb'⟩ : ∃ a, U64R m pa ea mst64 = a := ⟨_, rfl⟩
  have gb : pb ≤ m.length := by have := u64_at (er := ea) (most := mst64) ga; rwa [hb'] at this
  rw [hb'] at hx0
  dsimp only at hx0
  obtain ⟨⟨vc, pc, ec⟩, hc'⟩ : ∃ a, U64R m pb eb mst64 = a := ⟨_, rfl⟩
  have gc : pc ≤ m.length := by have := u64_at (er := eb) (most := mst64) gb; rwa [hc'] at this
  rw [hc'] at hx0
  dsimp only at hx0
  obtain ⟨⟨vd, pd, ed⟩, hd'⟩ : ∃ a, U64R m pc ec mst64 = a := ⟨_, rfl⟩
  have gd : pd ≤ m.length := by have := u64_at (er := ec) (most := mst64) gc; rwa [hd'] at this
  rw [hd'] at hx0
  dsimp only at hx0
  obtain ⟨⟨ve, pe, ee⟩, he'⟩ : ∃ a, U32R m pd ed mst32 = a := ⟨_, rfl⟩
  have ge : pe ≤ m.length := by have := u32_at (er := ed) (most := mst32) gd; rwa [he'] at this
  rw [he'] at hx0
  dsimp only at hx0
  (refine Zm rfl rfl rfl rfl rfl ?_; (iterate 2 (refine hx_plain rfl ?_; refine h_extract rfl rfl rfl rfl rfl ?_)); refine Za rfl rfl rfl rfl rfl ?_; refine Zn rfl rfl rfl rfl rfl ?_; refine hc_seq ?_; refine Zw rfl rfl rfl rfl rfl ?_; refine Zc rfl rfl rfl rfl rfl rfl rfl ?_; refine Zt ?_; refine hc_condF rfl ?_; refine hc_skip ?_; refine hq_then ?_; refine Zl rfl ?_; (refine h_alloc rfl rfl IC.zero rfl rfl rfl (fun _ => ?_)); refine Zt ?_; refine Zw rfl rfl rfl rfl rfl ?_; refine hx_plain rfl ?_)
  refine h_callB hB hF rfl rfl rfl rfl rfl rfl rfl rfl EC.out (.cons (.tail .head) .nil) ((u32_all p m 0 0 mst32 E g hml (Nat.zero_le _)).toB hI) ?_
  rintro u M ⟨rfl, rfl⟩
  rw [ha]
  (refine Zm rfl rfl rfl rfl rfl ?_; refine hx_plain rfl ?_)
  refine h_callB hB hF rfl rfl rfl rfl rfl rfl rfl rfl EC.out (.cons .head .nil) ((u64_all p m pa ea mst64 E g hml ga).toB hI) ?_
  rintro u M ⟨rfl, rfl⟩
  rw [hb']
  (refine Zm rfl rfl rfl rfl rfl ?_; refine hx_plain rfl ?_)
  refine h_callB hB hF rfl rfl rfl rfl rfl rfl rfl rfl EC.out (.cons .head .nil) ((u64_all p m pb eb mst64 E g hml gb).toB hI) ?_
  rintro u M ⟨rfl, rfl⟩
  rw [hc']
  (refine Zf rfl rfl rfl rfl rfl ?_; refine hx_plain rfl ?_; refine h_store rfl rfl rfl rfl rfl rfl IC.size (.tail .head) rfl rfl (Nat.le_of_ble_eq_true rfl) (List.all_eq_true.1 rfl) ?_; (iterate 2 (refine Zf rfl rfl rfl rfl rfl ?_; refine hx_plain rfl ?_; refine h_store rfl rfl rfl rfl rfl rfl IC.size .head rfl rfl (Nat.le_of_ble_eq_true rfl) (List.all_eq_true.1 rfl) ?_)); refine Zt ?_; refine Zw rfl rfl rfl rfl rfl ?_; refine hx_plain rfl ?_)
  refine h_callB hB hF rfl rfl rfl rfl rfl rfl rfl rfl EC.out (.cons (.tail .head) .nil) ((u64_all p m pc ec mst64 E g hml gc).toB hI) ?_
  rintro u M ⟨rfl, rfl⟩
  rw [hd']
  (refine Zm rfl rfl rfl rfl rfl ?_; refine hx_plain rfl ?_)
  refine h_callB hB hF rfl rfl rfl rfl rfl rfl rfl rfl EC.out (.cons .head .nil) ((u32_all p m pd ed mst32 E g hml gd).toB hI) ?_
  rintro u M ⟨rfl, rfl⟩
  rw [he']
  (refine Zf rfl rfl rfl rfl rfl ?_; refine hx_plain rfl ?_; refine h_store rfl rfl rfl rfl rfl rfl IC.size (.tail .head) rfl rfl (Nat.le_of_ble_eq_true rfl) (List.all_eq_true.1 rfl) ?_; refine Zf rfl rfl rfl rfl rfl ?_; refine hx_plain rfl ?_; refine h_store rfl rfl rfl rfl rfl rfl IC.size .head rfl rfl (Nat.le_of_ble_eq_true rfl) (List.all_eq_true.1 rfl) ?_; refine Zt ?_; refine hc_seq ?_; refine Zw rfl rfl rfl rfl rfl ?_; refine hx_plain rfl ?_)
  refine h_call rfl rfl rfl rfl rfl rfl rfl rfl EC.out (.cons (.tail .head) .nil) (err_spec p m pe ee) ?_
  rintro u M ⟨rfl, rfl⟩
  have hxr : x0.er = ee := by rw [← hx0]
  have hxa : x0.at_ = pe := by rw [← hx0]
  have hxd : x0.ds = [] := by rw [← hx0]
  by_cases q2 : ee = 0
  case neg =>
    rw [if_pos (by rw [hxr]; exact q2), hxr]
    (refine Zm rfl rfl rfl rfl rfl ?_; (iterate 2 (refine hx_plain rfl ?_; refine h_extract rfl rfl rfl rfl rfl ?_)); refine Za rfl rfl rfl rfl rfl ?_; refine Zn rfl rfl rfl rfl rfl ?_; refine Zw rfl rfl rfl rfl rfl ?_; refine Zc rfl rfl rfl rfl rfl rfl rfl ?_; refine Zt ?_; refine hc_condDT rfl (by omega) ?_; refine Zl rfl ?_; refine h_build rfl inferInstance rfl rfl rfl rfl ?_; refine Zm rfl rfl rfl rfl rfl ?_; refine hx_plain rfl ?_; refine h_storeAll rfl rfl rfl rfl rfl rfl IC.size (.tail (.tail .head)) rfl rfl rfl (List.all_eq_true.1 rfl) ?_; refine Zn rfl rfl rfl rfl rfl ?_; refine hc_ret ?_; refine hq_ret_then ?_)
    exact hq_R2 (.inr rfl) rfl (rv_cell rfl .head UC.out rfl IC.size) (rv_tmp rfl) ⟨⟨none, 0, 0⟩, rfl, rfl⟩ (fun _ h => St.rowV_nil h.emp)
  subst q2
  rw [if_neg (by rw [hxr]; simp)]
  (refine Zm rfl rfl rfl rfl rfl ?_; (iterate 2 (refine hx_plain rfl ?_; refine h_extract rfl rfl rfl rfl rfl ?_)); refine Za rfl rfl rfl rfl rfl ?_; refine Zn rfl rfl rfl rfl rfl ?_; refine Zw rfl rfl rfl rfl rfl ?_; refine Zc rfl rfl rfl rfl rfl rfl rfl ?_; refine Zt ?_; refine hc_condF rfl ?_; refine hc_skip ?_; refine hq_then ?_; refine hc_seq ?_; refine Zl rfl ?_)
  refine h_loadP (cs' := #[.int .i64 va, .int .i64 vb, .int .i64 vc, .int .i64 vd, .int .i64 ve, .int .i64 0, .int .i64 0, .int .i64 0, .int .i64 0, .string ⟨#[]⟩, .string ⟨#[]⟩, .string ⟨#[]⟩, .slice none 0 0]) rfl rfl UC.out rfl IC.size (.tail .head) rfl (by kernel_rfl) rfl rfl ?_
  (refine hx_plain rfl ?_)
  refine h_callR rfl rfl rfl rfl rfl rfl EC.out ((headOfRequest_spec ⟨va, vb, vc, vd, ve, 0, 0, 0, 0, ⟨#[]⟩, ⟨#[]⟩, ⟨#[]⟩, ⟨none, 0, 0⟩⟩).reads _) ?_
  have hxh : x0.r = ⟨va, vb, vc, vd, ve, 0, 0, 0, 0, ⟨#[]⟩, ⟨#[]⟩, ⟨#[]⟩, ⟨none, 0, 0⟩⟩ := by rw [← hx0]
  rw [← hxh]
  by_cases q3 : x0.r.head = 0
  case neg =>
    rw [if_pos q3]
    obtain ⟨hd, hhd⟩ : ∃ hd, x0.r.head = hd := ⟨_, rfl⟩
    rw [hhd] at q3 ⊢
    (refine Zn rfl rfl rfl rfl rfl ?_; refine Zw rfl rfl rfl rfl rfl ?_; refine Zc rfl rfl rfl rfl rfl rfl rfl ?_; refine Zt ?_; refine hc_condDT rfl (by omega) ?_; refine Zl rfl ?_; refine h_build rfl inferInstance rfl rfl rfl rfl ?_; refine Zm rfl rfl rfl rfl rfl ?_; refine hx_plain rfl ?_; refine h_storeAll rfl rfl rfl rfl rfl rfl IC.size (.tail (.tail .head)) rfl rfl rfl (List.all_eq_true.1 rfl) ?_; refine Zn rfl rfl rfl rfl rfl ?_; refine hc_ret ?_; refine hq_ret_then ?_)
    exact hq_R2 (.inr rfl) rfl (rv_cell rfl .head UC.out rfl IC.size) (rv_tmp rfl) ⟨⟨none, 0, 0⟩, rfl, rfl⟩ (fun _ h => St.rowV_nil h.emp)
  rw [if_neg (fun h => h q3), q3]
  (refine Zn rfl rfl rfl rfl rfl ?_; refine Zw rfl rfl rfl rfl rfl ?_; refine Zc rfl rfl rfl rfl rfl rfl rfl ?_; refine Zt ?_; refine hc_condF rfl ?_; refine hc_skip ?_; refine hq_then ?_; refine hc_seq ?_; refine Zl rfl ?_)
  rename_i b2 bx
  refine hx1_conv rfl rfl (C' := St w F [rqB bx x0.r, RdrX p m pe 0, Blk b2 (.cells ReqV.z.cs 24 (0, 0))]) (fun _ h => by rw [hxh]; exact h.sub (.cons (.tail .head) (.cons .head (.cons .head .nil)))) ?_
  refine h_callB hB hF rfl rfl rfl rfl rfl rfl rfl rfl EC.out (.cons .head .nil) ((ofRequest_spec hk bx x0.r (head_op q3)).know (φ := fun u => ∃ a c, u = .slice a (rqFs x0.r.op).length c) (fun v M w0 F w hp hst => by subst hp; exact St.rowV_shapeS hst .head)) ?_
  rintro u M ⟨⟨a1, c1, rfl⟩, rfl⟩
  obtain ⟨fs, hfs⟩ : ∃ fs, rqFs x0.r.op = fs := ⟨_, rfl⟩
  have hfl : fs.length ≤ 4 := by rw [← hfs]; unfold rqFs; rw [List.length_map]; exact askQ_len _
  rw [hfs]
  (refine hx_plain rfl ?_; refine h_len_slice rfl rfl rfl UC.out rfl rfl rfl ?_; refine Zm rfl rfl rfl rfl rfl ?_; refine Zt ?_; refine hc_block ?_)
  refine hc_cut (id := 0) (Y := Unit) (fun _ => [(4, ptrV p 0), (2, ptrV b2 0), (6, ptrV bx 0)]) (fun _ => [RdrX p m (takeQs m x0 fs).at_ (takeQs m x0 fs).er, DqO bx (takeQs m x0 fs).r (takeQs m x0 fs).ds, Blk b2 (.cells ReqV.z.cs 24 (0, 0))]) (fun _ => True) ?_ ?_
  · refine hc_loop (X := Nat) (fun i => [(4, ptrV p 0), (2, ptrV b2 0), (6, ptrV bx 0), (53, .slice a1 fs.length c1), (54, .int .i64 (fs.length : Int)), (55, .int .i64 (i : Int))]) (fun i => [RowV (rqE bx) 110 (.slice a1 fs.length c1) fs, RdrX p m (takeQs m x0 (fs.take i)).at_ (takeQs m x0 (fs.take i)).er, DqO bx (takeQs m x0 (fs.take i)).r (takeQs m x0 (fs.take i)).ds, Blk b2 (.cells ReqV.z.cs 24 (0, 0))]) (fun i => i ≤ fs.length) (fun i => fs.length - i) 0 (.cons rfl (.cons rfl (.cons rfl (.cons rfl (.cons rfl (.cons rfl .nil)))))) (Nat.zero_le _) (fun _ h => ?_) ?_
    · rw [List.take_zero]
      show St w F [_, RdrX p m x0.at_ x0.er, DqO bx x0.r x0.ds, _] _
      rw [hxa, hxr, hxd]
      rw [hxh] at h ⊢
      have h2 := St.rowV_nil (E := byteE) (T := 5) h
      have h3 := DqO_shut (p := bx) (r := ⟨va, vb, vc, vd, ve, 0, 0, 0, 0, ⟨#[]⟩, ⟨#[]⟩, ⟨#[]⟩, ⟨none, 0, 0⟩⟩) (ds := []) (sl := ⟨none, 0, 0⟩) (St.sub (.cons (.tail (.tail .head)) (.cons .head (.cons .head (.cons .head (.cons .head .nil))))) h2)
      exact h3.sub (.cons (.tail .head) (.cons (.tail .head) (.cons .head (.cons .head .nil))))
    intro i hi
    by_cases hlt : i < fs.length
    · obtain ⟨f, hf⟩ : ∃ f, fs[i]? = some f := ⟨_, List.getElem?_eq_getElem hlt⟩
      have e1 : fs[((i : Nat) : Int).toNat]? = some f := hf
      have hnx : takeQs m x0 (fs.take (i + 1)) = f.take m (takeQs m x0 (fs.take i)) := by
        unfold takeQs
        rw [List.take_add_one, hf, List.foldl_append]
        rfl
      refine hc_rowV .head ?_ ?_
      · intro _ e
        rw [e] at hlt
        exact absurd hlt (Nat.not_lt_zero _)
      rintro g2 cap e
      injection e with e1' e2' e3'
      subst e1' e3'
      obtain ⟨t, v0, fn, k1, k2, k3, k4⟩ := takeQ hI bx p hmb hml (takeQs m x0 (fs.take i)) (takeQs_at _ (by rw [hxa]; exact ge)) f
      (refine Zl rfl ?_; refine h_cmp rfl rfl rfl rfl rfl rfl ?_; refine Zt ?_; refine hc_seq ?_; refine hc_condDT rfl (by omega) ?_; refine hc_skip ?_; refine hq_then ?_; refine hc_seq ?_; refine hc_block ?_; refine Zl rfl ?_; refine h_rowAddr rfl rfl rfl UC.out IC.size (by omega) (by omega) rfl rfl ?_; refine hx_plain rfl ?_; refine h_rowLoad1 rfl .head rfl UC.out rfl (by with_reducible assumption) rfl rfl rfl ?_; refine Zn rfl rfl rfl rfl rfl ?_; refine hc_lex ?_; (iterate 2 (refine Zm rfl rfl rfl rfl rfl ?_)); refine hx_plain rfl ?_)
      refine h_invokeB hB hF rfl rfl rfl rfl (congrArg some k1) rfl k2 rfl rfl k3 (.cons (.tail .head) (.cons (.tail .head) .nil)) k4 ?_
      rintro u M rfl
      (refine hx_nil ?_; refine hq_norm_block ?_; refine hq_then ?_; refine hc_lex ?_; refine hx_plain rfl ?_; refine h_arithI rfl rfl rfl rfl (by omega) rfl rfl ?_; refine Zm rfl rfl rfl rfl rfl ?_; refine hx_nil ?_)
      refine hq_round (i + 1) (by omega) (by omega) (.cons rfl (.cons rfl (.cons rfl (.cons rfl (.cons rfl (.cons rfl .nil)))))) (fun _ h => ?_)
      rw [hnx]
      exact St.rowV_mk (h.sub (.cons (.tail (.tail .head)) (.cons .head (.cons .head (.cons .head .nil)))))
    · (refine Zl rfl ?_; refine h_cmp rfl rfl rfl rfl rfl rfl ?_; refine Zt ?_; refine hc_seq ?_; refine hc_condDF rfl (by omega) ?_; refine hc_exit ?_; (iterate 2 (refine hq_exit_then ?_)))
      refine hq_cut () trivial (.cons rfl (.cons rfl (.cons rfl .nil))) (fun _ h => ?_)
      rw [List.take_of_length_le (by omega)] at h
      exact h.sub (.cons (.tail .head) (.cons (.tail .head) (.cons (.tail .head) .nil)))
  rintro ⟨⟩ _
  obtain ⟨⟨r2, ds2, at2, er2⟩, hy⟩ : ∃ y, takeQs m x0 fs = y := ⟨_, rfl⟩
  rw [hy]
  unfold finQ
  dsimp only
  (refine hq_exit_block ?_; refine hq_then ?_)
  refine hc_open (.tail .head) DqO_open ?_
  rintro ⟨da, dn, dc⟩
  refine hc_know (φ := dn = ds2.length) (fun _ h => by obtain ⟨_, _, e⟩ := St.rowV_shapeS h (.tail .head); injection e) (fun hdn => ?_)
  (refine hc_seq ?_; refine Zw rfl rfl rfl rfl rfl ?_; refine hx_plain rfl ?_)
  refine h_call rfl rfl rfl rfl rfl rfl rfl rfl EC.out (.cons (.tail (.tail .head)) .nil) (close_spec p m at2 er2) ?_
  rintro u M ⟨rfl, rfl⟩
  obtain ⟨cl, hcl⟩ : ∃ cl, CloseR m at2 er2 = cl := ⟨_, rfl⟩
  rw [hcl]
  by_cases q4 : cl = 0
  case neg =>
    rw [if_pos q4]
    (refine Zn rfl rfl rfl rfl rfl ?_; refine Zw rfl rfl rfl rfl rfl ?_; refine Zc rfl rfl rfl rfl rfl rfl rfl ?_; refine Zt ?_; refine hc_condDT rfl (by omega) ?_; refine Zl rfl ?_; refine h_build rfl inferInstance rfl rfl rfl rfl ?_; refine Zm rfl rfl rfl rfl rfl ?_; refine hx_plain rfl ?_; refine h_storeAll rfl rfl rfl rfl rfl rfl IC.size (.tail (.tail (.tail .head))) rfl rfl rfl (List.all_eq_true.1 rfl) ?_; refine Zn rfl rfl rfl rfl rfl ?_; refine hc_ret ?_; refine hq_ret_then ?_)
    exact hq_R2 (.inr rfl) rfl (rv_cell rfl .head UC.out rfl IC.size) (rv_tmp rfl) ⟨⟨none, 0, 0⟩, rfl, rfl⟩ (fun _ h => St.rowV_nil h.emp)
  subst q4
  rw [if_neg (fun h => h rfl)]
  have hchk := ReqV.chk_dv (⟨r2, ds2, at2, er2⟩ : TkQ).fin ⟨da, dn, dc⟩ hdn
  obtain ⟨ck, hck⟩ : ∃ ck, (⟨r2, ds2, at2, er2⟩ : TkQ).fin.chk = ck := ⟨_, rfl⟩
  rw [hck] at hchk ⊢
  obtain ⟨client, seq, ack, epoch, op, id, id2, off, len, path, name, name2, dv⟩ := r2
  unfold rqB
  dsimp only [ReqV.cs, SlV.v]
  (refine Zn rfl rfl rfl rfl rfl ?_; refine Zw rfl rfl rfl rfl rfl ?_; refine Zc rfl rfl rfl rfl rfl rfl rfl ?_; refine Zt ?_; refine hc_condF rfl ?_; refine hc_skip ?_; refine hq_then ?_; refine hc_seq ?_; refine Zl rfl ?_)
  refine h_loadP (cs' := #[.int .i64 client, .int .i64 seq, .int .i64 ack, .int .i64 epoch, .int .i64 op, .int .i64 id, .int .i64 id2, .int .i64 off, .int .i64 len, .string path, .string name, .string name2, .slice da dn dc]) rfl rfl UC.out rfl IC.size (.tail .head) rfl (by kernel_rfl) rfl rfl ?_
  (refine hx_plain rfl ?_)
  refine h_callB hB hF rfl rfl rfl rfl rfl rfl rfl rfl EC.out .nil (checkRequest_spec hk ⟨client, seq, ack, epoch, op, id, id2, off, len, path, name, name2, ⟨da, dn, dc⟩⟩) ?_
  rintro u M ⟨rfl, rfl⟩
  rw [show (⟨client, seq, ack, epoch, op, id, id2, off, len, path, name, name2, ⟨da, dn, dc⟩⟩ : ReqV).chk = ck from hchk]
  by_cases q5 : ck = 0
  case neg =>
    rw [if_pos q5]
    (refine Zn rfl rfl rfl rfl rfl ?_; refine Zw rfl rfl rfl rfl rfl ?_; refine Zc rfl rfl rfl rfl rfl rfl rfl ?_; refine Zt ?_; refine hc_condDT rfl (by omega) ?_; refine Zl rfl ?_; refine h_build rfl inferInstance rfl rfl rfl rfl ?_; refine Zm rfl rfl rfl rfl rfl ?_; refine hx_plain rfl ?_; refine h_storeAll rfl rfl rfl rfl rfl rfl IC.size (.tail (.tail (.tail .head))) rfl rfl rfl (List.all_eq_true.1 rfl) ?_; refine Zn rfl rfl rfl rfl rfl ?_; refine hc_ret ?_; refine hq_ret_then ?_)
    exact hq_R2 (.inr rfl) rfl (rv_cell rfl .head UC.out rfl IC.size) (rv_tmp rfl) ⟨⟨none, 0, 0⟩, rfl, rfl⟩ (fun _ h => St.rowV_nil h.emp)
  subst q5
  rw [if_neg (fun h => h rfl)]
  (refine Zn rfl rfl rfl rfl rfl ?_; refine Zw rfl rfl rfl rfl rfl ?_; refine Zc rfl rfl rfl rfl rfl rfl rfl ?_; refine Zt ?_; refine hc_condF rfl ?_; refine hc_skip ?_; refine hq_then ?_; refine Zl rfl ?_)
  refine h_loadP (cs' := #[.int .i64 client, .int .i64 seq, .int .i64 ack, .int .i64 epoch, .int .i64 op, .int .i64 id, .int .i64 id2, .int .i64 off, .int .i64 len, .string path, .string name, .string name2, .slice da dn dc]) rfl rfl UC.out rfl IC.size (.tail .head) rfl (by kernel_rfl) rfl rfl ?_
  (refine hx_plain rfl ?_; refine h_storeAll rfl rfl rfl rfl rfl rfl IC.size (.tail (.tail (.tail .head))) rfl rfl rfl (List.all_eq_true.1 rfl) ?_; refine Zn rfl rfl rfl rfl rfl ?_; refine hc_ret ?_)
  exact hq_R2 (.inr rfl) rfl (rv_cell rfl .head UC.out rfl IC.size) (rv_tmp rfl) ⟨⟨da, dn, dc⟩, rfl, rfl⟩ (fun _ h => h.sub (.cons (.tail (.tail (.tail .head))) .nil))
end Go.Proofs.YtfolhmlldoepfaaGreatDoor
namespace Go.Proofs.YtfolhmlldoepfaaGreatDoor
open Go Go.Proofs Go.RowKit
set_option maxRecDepth 4000
/-- A reply under way: its data, its entries, the reader's place and error; are there too many entries? -/
structure TkP where
  r : RepV
  ds : List Int
  es : List EntV
  at_ : Nat
  er : Int
  ov : Bool
/-- The next entry. -/
def entT (m : List Int) (x : List EntV × Nat × Int) : List EntV × Nat × Int :=
  let a := BodyR m x.2.1 x.2.2 23
  let b := U64R m a.2.1 a.2.2 mst64
  let c := U32R m b.2.1 b.2.2 mst32
  (x.1 ++ [⟨strOf a.1, b.1, c.1⟩], c.2)
def entsT (m : List Int) : Nat → List EntV × Nat × Int → List EntV × Nat × Int
  | 0, x => x
  | n + 1, x => entT m (entsT m n x)
def RpF.take (bs : List Int) (x : TkP) : RpF → TkP
  | .attr _ =>
    let a := U64R bs x.at_ x.er mst64
    let b := U32R bs a.2.1 a.2.2 mst32
    let c := U32R bs b.2.1 b.2.2 mst32
    let d := U64R bs c.2.1 c.2.2 mst64
    ⟨{ x.r with aid := a.1, akind := b.1, asize := c.1, achange := d.1 }, x.ds, x.es, d.2.1, d.2.2, x.ov⟩
  | .cont => ⟨x.r, (BodyR bs x.at_ x.er 1024).1, x.es, (BodyR bs x.at_ x.er 1024).2.1, (BodyR bs x.at_ x.er 1024).2.2, x.ov⟩
  | .list =>
    let n := U32R bs x.at_ x.er mst32
    if 16 < n.1 then ⟨x.r, x.ds, x.es, n.2.1, n.2.2, true⟩ else let y := entsT bs n.1.toNat (x.es, n.2.1, n.2.2); ⟨x.r, x.ds, y.1, y.2.1, y.2.2, x.ov⟩
  | .more => ⟨{ x.r with more := (FlagR bs x.at_ x.er).1 }, x.ds, x.es, (FlagR bs x.at_ x.er).2.1, (FlagR bs x.at_ x.er).2.2, x.ov⟩
/-- The reply under way: its Data and List are its own. -/
def DpO (p : Nat) (r : RepV) (ds : List Int) (es : List EntV) : Asn := Ex fun s : SlV × SlV => All [rpB p { r with dv := s.1, lv := s.2 }, RowV byteE 5 s.1.v ds, RowV entE 94 s.2.v es]
theorem DpO_open {p : Nat} {r : RepV} {ds : List Int} {es : List EntV} (w w0 : World) (F0 : Nat → Prop) (R : List Asn) (h : St w0 F0 (DpO p r ds es :: R) w) : ∃ s : SlV × SlV, St w0 F0 ([rpB p { r with dv := s.1, lv := s.2 }, RowV byteE 5 s.1.v ds, RowV entE 94 s.2.v es] ++ R) w := by
  obtain ⟨x, hx⟩ := St.ex.1 h
  exact ⟨x, St.all.1 hx⟩
theorem DpO_shut {p : Nat} {r : RepV} {ds : List Int} {es : List EntV} {sl ll : SlV} {w w0 : World} {F0 : Nat → Prop} {R : List Asn} (h : St w0 F0 (rpB p { r with dv := sl, lv := ll } :: RowV byteE 5 sl.v ds :: RowV entE 94 ll.v es :: R) w) : St w0 F0 (DpO p r ds es :: R) w := St.ex.2 ⟨(sl, ll), St.all.2 h⟩
abbrev ovB (ov : Nat) (b : Bool) : Asn := Blk ov (.cells #[.bool b] 4 (0, 0))
/-- How a field is taken. -/
def TakeP (w1 : World) (p ov q : Nat) (bs : List Int) (x : TkP) (f : RpF) : Prop := ∃ t v0 fn, rpV p ov f = .iface t v0 ∧ (∀ w, (Go.method (Tryz.prog.types.size + Made.depth) t v0 "annex/msg.take").run Tryz.prog w = .ok (fn, v0) w) ∧ Enters Tryz.prog fn ∧ SpecB Tryz.prog w1 fn [v0, ptrV q 0] [RdrX q bs x.at_ x.er, DpO p x.r x.ds x.es, ovB ov x.ov] (fun u M => M = [RdrX q bs (f.take bs x).at_ (f.take bs x).er, DpO p (f.take bs x).r (f.take bs x).ds (f.take bs x).es, ovB ov (f.take bs x).ov])
theorem entT_at {m : List Int} {x : List EntV × Nat × Int} (h : x.2.1 ≤ m.length) : (entT m x).2.1 ≤ m.length := u32_at (u64_at (body_at' h))
theorem entsT_at {m : List Int} : ∀ (n : Nat) {x : List EntV × Nat × Int}, x.2.1 ≤ m.length → (entsT m n x).2.1 ≤ m.length
  | 0, _, h => h
  | n + 1, _, h => entT_at (entsT_at n h)
theorem entsT_len {m : List Int} : ∀ (n : Nat) {x : List EntV × Nat × Int}, (entsT m n x).1.length = x.1.length + n
  | 0, _ => rfl
  | n + 1, x => by
    show ((entsT m n x).1 ++ [_]).length = _
    rw [List.length_append, entsT_len n]
    rfl
set_option maxHeartbeats 4000000 in
theorem takeP {w1 : World} {E : Addr} {g : Nat} (hI : Glo (gl E) g w1) (p ov q : Nat) {bs : List Int} (hb : Byts bs) (hl : bs.length ≤ 140737488355200) (x : TkP) (hat : x.at_ ≤ bs.length) (hes : x.es.length ≤ 100) (f : RpF) : TakeP w1 p ov q bs x f := by
  obtain ⟨⟨client, seq, epoch, op, status, aid, akind, asize, achange, dv, lv, more⟩, ds, es, at_, er, o⟩ := x
  dsimp only at hat hes
  cases f with
  | attr o' =>
    -- <A>
    refine ⟨_, _, 189, rfl, (fun w => by kernel_rfl), EC.out, ?_⟩
    refine specB_of Tryz.func189 rfl rfl (Nat.le_of_ble_eq_true rfl) (fun w F hB hF => ?_)
    dsimp only [RpF.take]
    obtain ⟨⟨va, pa, ea⟩, ha⟩ : ∃ a, U64R bs at_ er mst64 = a := ⟨_, rfl⟩
    have ga : pa ≤ bs.length := by have := u64_at (er := er) (most := mst64) hat; rwa [ha] at this
    rw [ha]
    dsimp only
    obtain ⟨⟨vb, pb, eb⟩, hb'⟩ : ∃ a, U32R bs pa ea mst32 = a := ⟨_, rfl⟩
    have gb : pb ≤ bs.length := by have := u32_at (er := ea) (most := mst32) ga; rwa [hb'] at this
    rw [hb']
    dsimp only
    obtain ⟨⟨vc, pc, ec⟩, hc'⟩ : ∃ a, U32R bs pb eb mst32 = a := ⟨_, rfl⟩
    have gc : pc ≤ bs.length := by have := u32_at (er := eb) (most := mst32) gb; rwa [hc'] at this
    rw [hc']
    dsimp only
    obtain ⟨⟨vd, pd, ed⟩, hd'⟩ : ∃ a, U64R bs pc ec mst64 = a := ⟨_, rfl⟩
    have gd : pd ≤ bs.length := by have := u64_at (er := ec) (most := mst64) gc; rwa [hd'] at this
    rw [hd']
    dsimp only
    refine hc_open (.tail .head) DpO_open ?_
    rintro ⟨⟨da, dn, dc⟩, ⟨la, ln, lc⟩⟩
    unfold rpB
    dsimp only [RepV.cs, SlV.v]
    (refine Zl rfl ?_; (refine h_box rfl rfl rfl rfl rfl rfl (fun _ => ?_)); refine Zt ?_; refine hc_seq ?_)
    rename_i b
    refine hc_drawE (D := fun x => St w F [Blk b (.cells #[ptrV p 5, .int .i64 o'] 147 (0, 0))] x) (fun i => i == 5 || i == 7 || i == 10 || i == 13) [0, 1, 2, 3, 4, 6] [5, 7, 8, 9, 10, 11, 12, 13] (by kernel_rfl) (by kernel_rfl) rfl (fun x h => h.sub (.cons .head .nil)) rfl ?_
    ((iterate 2 (refine Zf rfl rfl rfl rfl rfl ?_; refine Zh rfl rfl rfl rfl rfl rfl rfl ?_)); (iterate 2 (refine Zm rfl rfl rfl rfl rfl ?_)); refine hx_nil ?_)
    refine hd_callB hB hF rfl rfl rfl rfl rfl rfl rfl rfl EC.out (.cons (.tail (.tail (.tail (.tail .head)))) .nil) ((u64_all q bs at_ er mst64 E g hl hat).toB hI) (fun v M hM x h => by obtain ⟨rfl, rfl⟩ := hM; exact h.sub (.cons (.tail .head) .nil)) ?_
    rintro v M ⟨rfl, rfl⟩
    rw [ha]
    refine hd_callB hB hF rfl rfl rfl rfl rfl rfl rfl rfl EC.out (.cons .head .nil) ((u32_all q bs pa ea mst32 E g hl ga).toB hI) (fun v M hM x h => by obtain ⟨rfl, rfl⟩ := hM; exact h.sub (.cons (.tail .head) .nil)) ?_
    rintro v M ⟨rfl, rfl⟩
    rw [hb']
    refine hd_reads [(8, _), (9, _)] rfl ?_
    (refine hx_plain rfl ?_; refine h_nilCheck rfl rfl rfl rfl ?_; refine hx_plain rfl ?_; refine h_fieldAddr rfl rfl FC.out rfl rfl ?_; refine hx_nil ?_)
    refine hd_store rfl rfl rfl rfl rfl rfl IC.size (.tail (.tail .head)) rfl rfl (Nat.le_of_ble_eq_true rfl) (List.all_eq_true.1 rfl) (fun x h => h.sub (.cons (.tail (.tail .head)) .nil)) ?_
    refine hd_reads [(11, _), (12, _)] rfl ?_
    (refine hx_plain rfl ?_; refine h_nilCheck rfl rfl rfl rfl ?_; refine hx_plain rfl ?_; refine h_fieldAddr rfl rfl FC.out rfl rfl ?_; refine hx_nil ?_)
    refine hd_store rfl rfl rfl rfl rfl rfl IC.size .head rfl rfl (Nat.le_of_ble_eq_true rfl) (List.all_eq_true.1 rfl) (fun x h => h.sub (.cons (.tail (.tail .head)) .nil)) ?_
    refine hd_nil ?_
    (refine hq_then ?_)
    refine hc_drawE (D := fun x => St w F [Blk b (.cells #[ptrV p 5, .int .i64 o'] 147 (0, 0))] x) (fun i => i == 5 || i == 7 || i == 10 || i == 13) [0, 1, 2, 3, 4, 6] [5, 7, 8, 9, 10, 11, 12, 13] (by kernel_rfl) (by kernel_rfl) rfl (fun x h => h.sub (.cons (.tail (.tail .head)) .nil)) rfl ?_
    ((iterate 2 (refine Zf rfl rfl rfl rfl rfl ?_; refine Zh rfl rfl rfl rfl rfl rfl rfl ?_)); (iterate 2 (refine Zm rfl rfl rfl rfl rfl ?_)); refine hx_nil ?_)
    refine hd_callB hB hF rfl rfl rfl rfl rfl rfl rfl rfl EC.out (.cons (.tail .head) .nil) ((u32_all q bs pb eb mst32 E g hl gb).toB hI) (fun v M hM x h => by obtain ⟨rfl, rfl⟩ := hM; exact h.sub (.cons (.tail (.tail .head)) .nil)) ?_
    rintro v M ⟨rfl, rfl⟩
    rw [hc']
    refine hd_callB hB hF rfl rfl rfl rfl rfl rfl rfl rfl EC.out (.cons .head .nil) ((u64_all q bs pc ec mst64 E g hl gc).toB hI) (fun v M hM x h => by obtain ⟨rfl, rfl⟩ := hM; exact h.sub (.cons (.tail (.tail .head)) .nil)) ?_
    rintro v M ⟨rfl, rfl⟩
    rw [hd']
    refine hd_reads [(8, _), (9, _)] rfl ?_
    (refine hx_plain rfl ?_; refine h_nilCheck rfl rfl rfl rfl ?_; refine hx_plain rfl ?_; refine h_fieldAddr rfl rfl FC.out rfl rfl ?_; refine hx_nil ?_)
    refine hd_store rfl rfl rfl rfl rfl rfl IC.size (.tail .head) rfl rfl (Nat.le_of_ble_eq_true rfl) (List.all_eq_true.1 rfl) (fun x h => h.sub (.cons (.tail (.tail .head)) .nil)) ?_
    refine hd_reads [(11, _), (12, _)] rfl ?_
    (refine hx_plain rfl ?_; refine h_nilCheck rfl rfl rfl rfl ?_; refine hx_plain rfl ?_; refine h_fieldAddr rfl rfl FC.out rfl rfl ?_; refine hx_nil ?_)
    refine hd_store rfl rfl rfl rfl rfl rfl IC.size .head rfl rfl (Nat.le_of_ble_eq_true rfl) (List.all_eq_true.1 rfl) (fun x h => h.sub (.cons (.tail (.tail .head)) .nil)) ?_
    refine hd_nil ?_
    skip
    refine hq_ret0 (.inl rfl) rfl rfl (fun _ h => ?_)
    have h2 := h.sub (.cons .head (.cons (.tail (.tail .head)) (.cons (.tail (.tail .head)) (.cons .head (.cons (.tail .head) .nil)))))
    exact (DpO_shut (sl := ⟨da, dn, dc⟩) (ll := ⟨la, ln, lc⟩) h2).perm (List.Perm.swap _ _ _)
    -- </A>
  | cont =>
    -- <B>
    refine ⟨_, _, 185, rfl, (fun w => by kernel_rfl), EC.out, ?_⟩
    refine specB_of Tryz.func185 rfl rfl (Nat.le_of_ble_eq_true rfl) (fun w F hB hF => ?_)
    dsimp only [RpF.take]
    refine hc_open (.tail .head) DpO_open ?_
    rintro ⟨⟨da, dn, dc⟩, ⟨la, ln, lc⟩⟩
    unfold rpB
    dsimp only [RepV.cs, SlV.v]
    (refine Zl rfl ?_; (refine h_box rfl rfl rfl rfl rfl rfl (fun _ => ?_)); refine Zt ?_)
    rename_i b
    refine hc_drawE (D := fun x => St w F [Blk b (.cells #[ptrV p 9, .int .i64 0] 136 (0, 0))] x) (fun i => i == 3 || i == 5) [0, 1, 2] [3, 4, 5] (by kernel_rfl) (by kernel_rfl) rfl (fun x h => h.sub (.cons .head .nil)) rfl ?_
    (refine Zf rfl rfl rfl rfl rfl ?_; refine Zh rfl rfl rfl rfl rfl rfl rfl ?_; refine Zm rfl rfl rfl rfl rfl ?_; refine hx_nil ?_)
    refine hd_callB hB hF rfl rfl rfl rfl rfl rfl rfl rfl EC.out (.cons (.tail (.tail (.tail (.tail .head)))) .nil) ((bytes_all q bs at_ er 1024 E g hl hat hb).toB hI) (fun v M hM x h => by subst hM; exact h.sub (.cons (.tail (.tail .head)) .nil)) ?_
    rintro v M rfl
    refine hd_reads [(4, _)] rfl ?_
    (refine hx_plain rfl ?_; refine h_nilCheck rfl rfl rfl rfl ?_; refine hx_nil ?_)
    refine hd_know rfl rfl (fun _ h => St.rowV_shapeS h .head) ?_
    rintro ⟨a2, c2, rfl⟩
    refine hd_store rfl rfl rfl rfl rfl rfl IC.size (.tail (.tail (.tail .head))) rfl rfl (Nat.le_of_ble_eq_true rfl) (List.all_eq_true.1 rfl) (fun x h => h.sub (.cons (.tail (.tail (.tail .head))) .nil)) ?_
    refine hd_nil ?_
    skip
    refine hq_ret0 (.inl rfl) rfl rfl (fun _ h => ?_)
    have h2 := h.sub (.cons .head (.cons .head (.cons (.tail (.tail (.tail .head))) (.cons .head (.cons (.tail (.tail .head)) .nil)))))
    exact (DpO_shut (sl := ⟨a2, (BodyR bs at_ er 1024).1.length, c2⟩) (ll := ⟨la, ln, lc⟩) h2).perm (List.Perm.swap _ _ _)
    -- </B>
  | list =>
    -- <C>
    refine ⟨_, _, 192, rfl, (fun w => by kernel_rfl), EC.out, ?_⟩
    refine specB_of Tryz.func192 rfl rfl (Nat.le_of_ble_eq_true rfl) (fun w F hB hF => ?_)
    dsimp only [RpF.take]
    refine hc_open (.tail .head) DpO_open ?_
    rintro ⟨⟨da, dn, dc⟩, ll⟩
    unfold rpB
    dsimp only [RepV.cs, SlV.v]
    obtain ⟨⟨n, pa, ea⟩, ha⟩ : ∃ a, U32R bs at_ er mst32 = a := ⟨_, rfl⟩
    have ga : pa ≤ bs.length := by have := u32_at (er := er) (most := mst32) hat; rwa [ha] at this
    rw [ha]
    dsimp only
    (refine Zl rfl ?_; (refine h_box rfl rfl rfl rfl rfl rfl (fun _ => ?_)); refine Zt ?_; refine Zw rfl rfl rfl rfl rfl ?_; refine hx_plain rfl ?_)
    rename_i b
    refine h_callB hB hF rfl rfl rfl rfl rfl rfl rfl rfl EC.out (.cons (.tail (.tail (.tail (.tail .head)))) .nil) ((u32_all q bs at_ er mst32 E g hl hat).toB hI) ?_
    rintro v M ⟨rfl, rfl⟩
    rw [ha]
    by_cases h16 : 16 < n
    · rw [if_pos h16]
      (refine Zn rfl rfl rfl rfl rfl ?_; refine hc_seq ?_; refine Zw rfl rfl rfl rfl rfl ?_; refine Zc rfl rfl rfl rfl rfl rfl rfl ?_; refine Zt ?_; refine hc_condDT rfl (by first | omega | (dsimp only; omega)) ?_; refine Zl rfl ?_; refine h_fieldAddr0 rfl rfl FC.out rfl rfl ?_; refine hx_plain rfl ?_; refine h_load rfl rfl UC.out rfl (.tail .head) rfl rfl rfl ?_; refine hx_plain rfl ?_; refine h_nilCheck rfl rfl rfl rfl ?_; refine hx_plain rfl ?_; refine h_storeAll rfl rfl rfl rfl rfl rfl IC.size (.tail (.tail (.tail (.tail (.tail .head))))) rfl rfl rfl (List.all_eq_true.1 rfl) ?_; refine Zt ?_; refine hc_ret ?_; refine hq_ret_then ?_)
      refine hq_ret0 (.inr rfl) rfl rfl (fun _ h => ?_)
      have h2 := h.sub (.cons (.tail (.tail (.tail .head))) (.cons (.tail (.tail (.tail .head))) (.cons (.tail (.tail (.tail .head))) (.cons (.tail .head) (.cons .head .nil)))))
      exact (DpO_shut (sl := ⟨da, dn, dc⟩) (ll := ll) h2).perm (List.Perm.swap _ _ _)
    rw [if_neg h16]
    (refine Zn rfl rfl rfl rfl rfl ?_; refine hc_seq ?_; refine Zw rfl rfl rfl rfl rfl ?_; refine Zc rfl rfl rfl rfl rfl rfl rfl ?_; refine Zt ?_; refine hc_condDF rfl (by first | omega | (dsimp only; omega)) ?_; refine hc_skip ?_; refine hq_then ?_; refine Zw rfl rfl rfl rfl rfl ?_; refine Zm rfl rfl rfl rfl rfl ?_; refine Zt ?_; refine hc_block ?_)
    refine hc_cut (id := 0) (Y := SlV) (fun _ => []) (fun ll => [RdrX q bs (entsT bs n.toNat (es, pa, ea)).2.1 (entsT bs n.toNat (es, pa, ea)).2.2, rpB p ⟨client, seq, epoch, op, status, aid, akind, asize, achange, ⟨da, dn, dc⟩, ll, more⟩, RowV byteE 5 (.slice da dn dc) ds, RowV entE 94 ll.v (entsT bs n.toNat (es, pa, ea)).1, ovB ov o]) (fun _ => True) ?_ ?_
    · refine hc_loop (X := Nat × SlV) (fun x => [(1, ptrV q 0), (2, ptrV b 0), (13, .int .i64 n), (14, .int .i64 (x.1 : Int))]) (fun x => [RdrX q bs (entsT bs x.1 (es, pa, ea)).2.1 (entsT bs x.1 (es, pa, ea)).2.2, rpB p ⟨client, seq, epoch, op, status, aid, akind, asize, achange, ⟨da, dn, dc⟩, x.2, more⟩, RowV byteE 5 (.slice da dn dc) ds, RowV entE 94 x.2.v (entsT bs x.1 (es, pa, ea)).1, ovB ov o, Blk b (.cells #[ptrV p 10, ptrV ov 0] 150 (0, 0))]) (fun x => x.1 ≤ n.toNat) (fun x => n.toNat - x.1) (0, ll) (.cons rfl (.cons rfl (.cons rfl (.cons rfl .nil)))) (Nat.zero_le _) (fun _ h => ?_) ?_
      · exact h.sub (.cons .head (.cons (.tail .head) (.cons (.tail .head) (.cons (.tail .head) (.cons (.tail .head) (.cons .head .nil))))))
      rintro ⟨i, ll⟩ hi
      dsimp only at hi ⊢
      by_cases hlt : i < n.toNat
      · have hsl := entsT_len (m := bs) i (x := (es, pa, ea))
        have hga := entsT_at (m := bs) i (x := (es, pa, ea)) ga
        obtain ⟨⟨es1, p1, e1⟩, hy⟩ : ∃ y, entsT bs i (es, pa, ea) = y := ⟨_, rfl⟩
        have hnx : entsT bs (i + 1) (es, pa, ea) = entT bs (es1, p1, e1) := by rw [← hy]; rfl
        rw [hy] at hsl hga ⊢
        dsimp only at hsl hga ⊢
        obtain ⟨⟨va, pa', ea'⟩, ha2⟩ : ∃ a, BodyR bs p1 e1 23 = a := ⟨_, rfl⟩
        have ga2 : pa' ≤ bs.length := by have := body_at' (er := e1) (most := 23) hga; rwa [ha2] at this
        obtain ⟨⟨vb, pb, eb⟩, hb'⟩ : ∃ a, U64R bs pa' ea' mst64 = a := ⟨_, rfl⟩
        have gb : pb ≤ bs.length := by have := u64_at (er := ea') (most := mst64) ga2; rwa [hb'] at this
        obtain ⟨⟨vc, pc, ec⟩, hc'⟩ : ∃ a, U32R bs pb eb mst32 = a := ⟨_, rfl⟩
        have hnx2 : entsT bs (i + 1) (es, pa, ea) = (es1 ++ [⟨strOf va, vb, vc⟩], pc, ec) := by
          rw [hnx]
          unfold entT
          dsimp only
          rw [ha2]
          dsimp only
          rw [hb']
          dsimp only
          rw [hc']
        (refine Zl rfl ?_; refine h_cmp rfl rfl rfl rfl rfl rfl ?_; refine Zt ?_; refine hc_seq ?_; refine hc_condDT rfl (by first | omega | (dsimp only; omega)) ?_; refine hc_skip ?_; refine hq_then ?_; refine hc_seq ?_; refine hc_block ?_; refine Zw rfl rfl rfl rfl rfl ?_; refine hx_plain rfl ?_)
        refine h_callB hB hF rfl rfl rfl rfl rfl rfl rfl rfl EC.out (.cons .head .nil) ((text_all q bs p1 e1 23 E g hl hga hb).toB hI) ?_
        rintro v M ⟨rfl, rfl⟩
        rw [ha2]
        (refine hx_plain rfl ?_; refine h_build rfl inferInstance rfl rfl rfl rfl ?_; refine hx_plain rfl ?_; (refine h_alloc rfl rfl IC.zero rfl rfl rfl (fun _ => ?_)); refine hx_plain rfl ?_; refine h_storeAll rfl rfl rfl rfl rfl rfl IC.size .head rfl rfl rfl (List.all_eq_true.1 rfl) ?_; refine Zt ?_; refine Zw rfl rfl rfl rfl rfl ?_; refine hx_plain rfl ?_)
        refine h_callB hB hF rfl rfl rfl rfl rfl rfl rfl rfl EC.out (.cons (.tail .head) .nil) ((u64_all q bs pa' ea' mst64 E g hl ga2).toB hI) ?_
        rintro v M ⟨rfl, rfl⟩
        rw [hb']
        (refine Zm rfl rfl rfl rfl rfl ?_; refine hx_plain rfl ?_)
        refine h_callB hB hF rfl rfl rfl rfl rfl rfl rfl rfl EC.out (.cons .head .nil) ((u32_all q bs pb eb mst32 E g hl gb).toB hI) ?_
        rintro v M ⟨rfl, rfl⟩
        rw [hc']
        (refine Zf rfl rfl rfl rfl rfl ?_; refine hx_plain rfl ?_; refine h_store rfl rfl rfl rfl rfl rfl IC.size (.tail .head) rfl rfl (Nat.le_of_ble_eq_true rfl) (List.all_eq_true.1 rfl) ?_; refine Zf rfl rfl rfl rfl rfl ?_; refine hx_plain rfl ?_; refine h_store rfl rfl rfl rfl rfl rfl IC.size .head rfl rfl (Nat.le_of_ble_eq_true rfl) (List.all_eq_true.1 rfl) ?_; refine Zt ?_)
        rename_i be
        refine hc_st (C' := St w F [Blk be (.cells #[.string (strOf va), .int .i64 vb, .int .i64 vc] 94 (0, 0)), RdrX q bs pc ec, rpB p ⟨client, seq, epoch, op, status, aid, akind, asize, achange, ⟨da, dn, dc⟩, ll, more⟩, RowV byteE 5 (.slice da dn dc) ds, RowV entE 94 ll.v es1, ovB ov o, Blk b (.cells #[ptrV p 10, ptrV ov 0] 150 (0, 0))]) (fun _ h => h) ?_
        refine hc_drawL (D := fun x => St w F [Blk be (.cells #[.string (strOf va), .int .i64 vb, .int .i64 vc] 94 (0, 0)), rpB p ⟨client, seq, epoch, op, status, aid, akind, asize, achange, ⟨da, dn, dc⟩, ll, more⟩, Blk b (.cells #[ptrV p 10, ptrV ov 0] 150 (0, 0))] x) (fun i => i == 7 || i == 8 || i == 10) [0, 1, 2, 3, 4, 5, 6] [7, 8, 9] 10 (by kernel_rfl) (by kernel_rfl) rfl (fun x h => h.sub (.cons .head (.cons (.tail .head) (.cons (.tail (.tail (.tail (.tail .head)))) .nil)))) rfl ?_
        ((iterate 2 (refine Zf rfl rfl rfl rfl rfl ?_; refine hx_plain rfl ?_; refine h_load rfl rfl UC.out rfl (.tail (.tail .head)) rfl rfl rfl ?_)); refine hx_plain rfl ?_; refine h_nilCheck rfl rfl rfl rfl ?_; refine hx_plain rfl ?_; refine h_load rfl rfl UC.out rfl (.tail .head) rfl rfl rfl ?_; refine hx_plain rfl ?_)
        refine h_loadP (cs' := #[.string (strOf va), .int .i64 vb, .int .i64 vc]) rfl rfl UC.out rfl IC.size .head rfl (by kernel_rfl) rfl rfl ?_
        (refine hx_nil ?_)
        refine hl_ev rfl ?_
        (refine hx_plain rfl ?_; (refine h_buildSlice rfl rfl rfl UC.out IC.size IC.zero rfl rfl (by intro v hv; simp at hv; first | (subst hv; rfl) | (rcases hv with rfl | rfl <;> rfl) | (rcases hv with rfl | rfl | rfl <;> rfl)) (by first | omega | (dsimp only; omega)) rfl rfl (fun _ => ?_)); refine hx_nil ?_)
        refine ⟨.inr (fun x h => h.sub (.cons (.tail .head) (.cons (.tail (.tail .head)) (.cons (.tail (.tail (.tail (.tail (.tail .head))))) .nil)))), ?_⟩
        refine hl_ev rfl ?_
        refine hx_plain rfl ?_
        refine h_appendR (m := 1) (E := entE) (T := 94) (xs := es1) (ys := [⟨strOf va, vb, vc⟩]) rfl rfl rfl rfl rfl UC.out IC.out rfl (.cons (.tail (.tail (.tail (.tail (.tail .head))))) (.cons .head .nil)) rfl rfl (one_row entE _) (by unfold maxLen; omega) (by omega) rfl rfl (fun g' c' => ?_)
        (refine hx_nil ?_)
        refine ⟨.inr (fun x h => h.sub (.cons (.tail (.tail .head)) (.cons (.tail (.tail (.tail .head))) (.cons (.tail (.tail (.tail (.tail (.tail .head))))) .nil)))), ?_⟩
        refine hl_reads [(9, _)] rfl ?_
        (refine hx_plain rfl ?_; refine h_nilCheck rfl rfl rfl rfl ?_; refine hx_nil ?_)
        refine hl_ev rfl ?_
        (refine hx_plain rfl ?_; refine h_store rfl rfl rfl rfl rfl rfl IC.size (.tail (.tail (.tail (.tail .head)))) rfl rfl (Nat.le_of_ble_eq_true rfl) (List.all_eq_true.1 rfl) ?_; refine hx_nil ?_)
        refine ⟨.inl rfl, ?_⟩
        refine hl_nil ?_
        (refine hq_norm_block ?_; refine hq_then ?_; refine hc_lex ?_; refine hx_plain rfl ?_; refine h_arithI rfl rfl rfl rfl (by first | omega | (dsimp only; omega)) rfl rfl ?_; refine Zm rfl rfl rfl rfl rfl ?_; refine hx_nil ?_)
        refine hq_round (i + 1, ⟨some ⟨g', 0, none⟩, (es1 ++ [(⟨strOf va, vb, vc⟩ : EntV)]).length, c'⟩) (by show n.toNat - (i + 1) < n.toNat - i; omega) (by show i + 1 ≤ n.toNat; omega) (.cons rfl (.cons rfl (.cons rfl (.cons rfl .nil)))) (fun _ h => ?_)
        dsimp only
        rw [hnx2]
        have h1 := (h.perm (List.Perm.swap _ _ _)).rowV_mk
        exact h1.sub (.cons (.tail (.tail (.tail (.tail .head)))) (.cons (.tail .head) (.cons (.tail (.tail (.tail .head))) (.cons .head (.cons (.tail (.tail .head)) (.cons (.tail (.tail .head)) .nil))))))
      · (refine Zl rfl ?_; refine h_cmp rfl rfl rfl rfl rfl rfl ?_; refine Zt ?_; refine hc_seq ?_; refine hc_condDF rfl (by first | omega | (dsimp only; omega)) ?_; refine hc_exit ?_; (iterate 2 (refine hq_exit_then ?_)))
        refine hq_cut ll trivial .nil (fun _ h => ?_)
        rw [show i = n.toNat by omega] at h
        exact h.sub (.cons .head (.cons .head (.cons .head (.cons .head (.cons .head .nil)))))
    rintro ll2 _
    (refine hq_exit_block ?_)
    refine hq_ret0 (.inl rfl) rfl rfl (fun _ h => ?_)
    have h2 := h.sub (.cons (.tail .head) (.cons (.tail .head) (.cons (.tail .head) (.cons .head (.cons .head .nil)))))
    exact (DpO_shut (sl := ⟨da, dn, dc⟩) (ll := ll2) h2).perm (List.Perm.swap _ _ _)
    -- </C>
  | more =>
    -- <D>
    refine ⟨_, _, 195, rfl, (fun w => by kernel_rfl), EC.out, ?_⟩
    refine specB_of Tryz.func195 rfl rfl (Nat.le_of_ble_eq_true rfl) (fun w F hB hF => ?_)
    dsimp only [RpF.take]
    refine hc_open (.tail .head) DpO_open ?_
    rintro ⟨⟨da, dn, dc⟩, ⟨la, ln, lc⟩⟩
    unfold rpB
    dsimp only [RepV.cs, SlV.v]
    (refine Zl rfl ?_; (refine h_box rfl rfl rfl rfl rfl rfl (fun _ => ?_)); refine Zt ?_)
    rename_i b
    refine hc_drawE (D := fun x => St w F [Blk b (.cells #[ptrV p 11, ptrV p 10] 152 (0, 0))] x) (fun i => i == 3 || i == 5) [0, 1, 2] [3, 4, 5] (by kernel_rfl) (by kernel_rfl) rfl (fun x h => h.sub (.cons .head .nil)) rfl ?_
    (refine Zf rfl rfl rfl rfl rfl ?_; refine Zh rfl rfl rfl rfl rfl rfl rfl ?_; refine Zm rfl rfl rfl rfl rfl ?_; refine hx_nil ?_)
    refine hd_callB hB hF rfl rfl rfl rfl rfl rfl rfl rfl EC.out (.cons (.tail (.tail (.tail (.tail .head)))) .nil) ((flag_all q bs at_ er E g hl hat).toB hI) (fun v M hM x h => by obtain ⟨rfl, rfl⟩ := hM; exact h.sub (.cons (.tail .head) .nil)) ?_
    rintro v M ⟨rfl, rfl⟩
    refine hd_reads [(4, _)] rfl ?_
    (refine hx_plain rfl ?_; refine h_nilCheck rfl rfl rfl rfl ?_; refine hx_nil ?_)
    refine hd_store rfl rfl rfl rfl rfl rfl IC.size (.tail (.tail .head)) rfl rfl (Nat.le_of_ble_eq_true rfl) (List.all_eq_true.1 rfl) (fun x h => h.sub (.cons (.tail (.tail .head)) .nil)) ?_
    refine hd_nil ?_
    skip
    refine hq_ret0 (.inl rfl) rfl rfl (fun _ h => ?_)
    have h2 := h.sub (.cons .head (.cons (.tail (.tail .head)) (.cons (.tail (.tail .head)) (.cons .head (.cons (.tail .head) .nil)))))
    exact (DpO_shut (sl := ⟨da, dn, dc⟩) (ll := ⟨la, ln, lc⟩) h2).perm (List.Perm.swap _ _ _)
    -- </D>
end Go.Proofs.YtfolhmlldoepfaaGreatDoor
namespace Go.Proofs.YtfolhmlldoepfaaGreatDoor
open Go Go.Proofs Go.RowKit
set_option maxRecDepth 4000
theorem SpecB.rd {P : Program} {w : World} {f : FuncId} {args : List Value} {v : Value} (h : SpecB P w f args [] (fun u M => u = v ∧ M = [])) : Calls P f args.toArray w (fun en w' => en = .returned v ∧ But w w' nowhere) :=
  (h w (fun _ => False) trivial (.refl _ _) (fun _ h => h.elim)).mono fun en w' ⟨u, M, h1, ⟨h2, h3⟩, F, _, hb, _⟩ => by
    subst h2
    exact ⟨h1, hb⟩
def RepV.z : RepV := ⟨0, 0, 0, 0, 0, 0, 0, 0, 0, ⟨none, 0, 0⟩, ⟨none, 0, 0⟩, false⟩
/-- The head of a reply, as it is read. -/
def hdP0 (m : List Int) : TkP :=
  let a := U32R m 0 0 mst32
  let b := U64R m a.2.1 a.2.2 mst64
  let c := U64R m b.2.1 b.2.2 mst64
  let d := U32R m c.2.1 c.2.2 mst32
  let e := U32R m d.2.1 d.2.2 mst32
  ⟨⟨a.1, b.1, c.1, d.1, e.1, 0, 0, 0, 0, ⟨none, 0, 0⟩, ⟨none, 0, 0⟩, false⟩, [], [], e.2.1, e.2.2, false⟩
def TkP.fin (y : TkP) : RepV := { y.r with dv := ⟨none, y.ds.length, 0⟩, lv := ⟨none, y.es.length, 0⟩ }
def takePs (bs : List Int) (x : TkP) (fs : List RpF) : TkP := fs.foldl (fun x f => f.take bs x) x
theorem takeP_at {bs : List Int} {x : TkP} (h : x.at_ ≤ bs.length) (f : RpF) : (f.take bs x).at_ ≤ bs.length := by
  cases f with
  | attr o => exact u64_at (u32_at (u32_at (u64_at h)))
  | cont => exact body_at' h
  | list =>
    unfold RpF.take
    dsimp only
    split
    · exact u32_at h
    · exact entsT_at _ (u32_at h)
  | more => exact flag_at h
theorem takePs_at {bs : List Int} : ∀ (fs : List RpF) {x : TkP}, x.at_ ≤ bs.length → (takePs bs x fs).at_ ≤ bs.length
  | [], _, h => h
  | f :: fs, _, h => takePs_at fs (takeP_at h f)
theorem takeP_es {bs : List Int} {x : TkP} (f : RpF) : (f.take bs x).es.length ≤ x.es.length + 16 := by
  cases f with
  | list =>
    unfold RpF.take
    dsimp only
    split
    · show x.es.length ≤ _; omega
    · show (entsT _ _ _).1.length ≤ _
      rw [entsT_len]
      dsimp only
      omega
  | _ => exact Nat.le_add_right _ _
theorem takePs_es {bs : List Int} : ∀ (fs : List RpF) {x : TkP}, (takePs bs x fs).es.length ≤ x.es.length + 16 * fs.length
  | [], _ => Nat.le_add_right _ _
  | f :: fs, x => by
    have h1 := takePs_es (bs := bs) fs (x := f.take bs x)
    have h2 := takeP_es (bs := bs) (x := x) f
    show (takePs bs (f.take bs x) fs).es.length ≤ _
    rw [List.length_cons]
    omega
theorem takeP_ov {bs : List Int} {x : TkP} (h : x.ov = true) (f : RpF) : (f.take bs x).ov = true := by
  cases f with
  | list =>
    unfold RpF.take
    dsimp only
    split
    · rfl
    · exact h
  | _ => exact h
theorem takePs_ov {bs : List Int} : ∀ (fs : List RpF) {x : TkP}, x.ov = true → (takePs bs x fs).ov = true
  | [], _, h => h
  | f :: fs, _, h => takePs_ov fs (takeP_ov h f)
def finP (m : List Int) (y : TkP) : RepV × List Int × List EntV × Int :=
  if y.ov = true then (.z, [], [], 46) else if CloseR m y.at_ y.er ≠ 0 then (.z, [], [], CloseR m y.at_ y.er) else if y.fin.chk y.es ≠ 0 then (.z, [], [], y.fin.chk y.es) else (y.fin, y.ds, y.es, 0)
/-- A reply read of bytes: the reply, its data, its entries, the error. -/
def decP (bs : List Int) : RepV × List Int × List EntV × Int :=
  if openE bs mgR ≠ 0 then (.z, [], [], openE bs mgR) else if (hdP0 (midB bs)).er ≠ 0 then (.z, [], [], (hdP0 (midB bs)).er) else if (hdP0 (midB bs)).r.head ≠ 0 then (.z, [], [], (hdP0 (midB bs)).r.head)
  else finP (midB bs) (takePs (midB bs) (hdP0 (midB bs)) (rpFs' (hdP0 (midB bs)).r))
theorem RepV.ok_dv (r : RepV) (es : List EntV) (sl ll : SlV) (h : sl.len = r.dv.len) (hl : ll.len = r.lv.len) (f : RpF) : f.ok { r with dv := sl, lv := ll } es = f.ok r es := by
  cases f with
  | cont => simp only [RpF.ok, h]
  | more => simp only [RpF.ok, hl]
  | _ => rfl
theorem RepV.chk_dv (r : RepV) (es : List EntV) (sl ll : SlV) (h : sl.len = r.dv.len) (hl : ll.len = r.lv.len) : ({ r with dv := sl, lv := ll } : RepV).chk es = r.chk es := by
  have hz : ∀ (fs : List RpF) (q : RepV) (s2 l2 : SlV), s2.len = q.dv.len → l2.len = q.lv.len → (clrAllP { q with dv := s2, lv := l2 } fs).zeroB = (clrAllP q fs).zeroB := by
    intro fs
    induction fs with
    | nil =>
      intro q s2 l2 e e'
      obtain ⟨_, n, _⟩ := s2
      obtain ⟨_, k, _⟩ := l2
      obtain ⟨_, _, _, _, _, _, _, _, _, ⟨_, n2, _⟩, ⟨_, k2, _⟩, _⟩ := q
      obtain rfl : n = n2 := e
      obtain rfl : k = k2 := e'
      rfl
    | cons f fs ih =>
      intro q s2 l2 e e'
      show (clrAllP (f.clr { q with dv := s2, lv := l2 }) fs).zeroB = (clrAllP (f.clr q) fs).zeroB
      cases f with
      | attr o => exact ih { q with aid := 0, akind := 0, asize := 0, achange := 0 } s2 l2 e e'
      | cont => exact ih { q with dv := ⟨none, 0, 0⟩ } ⟨none, 0, 0⟩ l2 rfl e'
      | list => exact ih { q with lv := ⟨none, 0, 0⟩ } s2 ⟨none, 0, 0⟩ e rfl
      | more => exact ih { q with more := false } s2 l2 e e'
  unfold RepV.chk RepV.good RepV.head clrP'
  dsimp only
  rw [hz _ r sl ll h hl, show ((if r.status = 0 then rpFs r.op else []).all fun f => f.ok { r with dv := sl, lv := ll } es) = ((if r.status = 0 then rpFs r.op else []).all fun f => f.ok r es) from by congr 1; funext f; exact r.ok_dv es sl ll h hl f]
set_option maxHeartbeats 8000000 in
theorem decodeReply_spec {w1 : World} {E : Addr} {g : Nat} (hI : Glo (gl E) g w1) (hk : AskF w1) {v : Value} {bs : List Int} (hr : Rd byteE w1 v bs) (hb : Byts bs) : SpecB Tryz.prog w1 40 [v] []
    (fun u M => ∃ sl ll : SlV, u = .tuple #[.agg ({ (decP bs).1 with dv := sl, lv := ll } : RepV).cs, .int .i64 (decP bs).2.2.2] ∧ M = [RowV byteE 5 sl.v (decP bs).2.1, RowV entE 94 ll.v (decP bs).2.2.1]) := by
  refine specB_of Tryz.func40 rfl rfl (Nat.le_of_ble_eq_true rfl) (fun w F hB hF => ?_)
  have hmb := midB_byts hb
  (refine Zl rfl ?_; (refine h_alloc rfl rfl IC.zero rfl rfl rfl (fun _ => ?_)); refine Zn rfl rfl rfl rfl rfl ?_; refine Zw rfl rfl rfl rfl rfl ?_; refine hx_plain rfl ?_)
  refine h_callB hB hF rfl rfl rfl rfl rfl rfl rfl rfl EC.out .nil (opened_spec hI hr mgR) ?_
  intro u M hu
  by_cases q1 : openE bs mgR = 0
  case neg =>
    rw [if_neg q1] at hu
    obtain ⟨rfl, rfl⟩ := hu
    have e1 : decP bs = (.z, [], [], openE bs mgR) := if_pos q1
    rw [e1]
    (refine Zm rfl rfl rfl rfl rfl ?_; (iterate 2 (refine hx_plain rfl ?_; refine h_extract rfl rfl rfl rfl rfl ?_)); refine Za rfl rfl rfl rfl rfl ?_; refine Zn rfl rfl rfl rfl rfl ?_; refine hc_seq ?_; refine Zw rfl rfl rfl rfl rfl ?_; refine Zc rfl rfl rfl rfl rfl rfl rfl ?_; refine Zt ?_; refine hc_condDT rfl (by omega) ?_; refine Zl rfl ?_; refine h_build rfl inferInstance rfl rfl rfl rfl ?_; refine Zm rfl rfl rfl rfl rfl ?_; refine hx_plain rfl ?_; refine h_storeAll rfl rfl rfl rfl rfl rfl IC.size .head rfl rfl rfl (List.all_eq_true.1 rfl) ?_; refine Zn rfl rfl rfl rfl rfl ?_; refine hc_ret ?_; refine hq_ret_then ?_)
    exact hq_R2 (.inr rfl) rfl (rv_cell rfl .head UC.out rfl IC.size) (rv_tmp rfl) ⟨⟨none, 0, 0⟩, ⟨none, 0, 0⟩, rfl, rfl⟩ (fun _ h => St.rowV_nil (St.rowV_nil h.emp))
  rw [if_pos q1] at hu
  obtain ⟨p, rfl, rfl⟩ := hu
  obtain ⟨m, hm⟩ : ∃ m, midB bs = m := ⟨_, rfl⟩
  have hml : m.length ≤ 140737488355200 := by
    have h1 := midB_len bs
    rw [hm] at h1
    unfold openE at q1
    split at q1
    · cases q1
    · omega
  rw [hm] at hmb ⊢
  obtain ⟨x0, hx0⟩ : ∃ x0, hdP0 m = x0 := ⟨_, rfl⟩
  have e1 : decP bs = if x0.er ≠ 0 then (.z, [], [], x0.er) else if x0.r.head ≠ 0 then (.z, [], [], x0.r.head) else finP m (takePs m x0 (rpFs' x0.r)) := by
    unfold decP
    rw [hm, hx0, if_neg (fun h => h q1)]
  rw [e1]
  clear e1
  unfold hdP0 at hx0
  dsimp only at hx0
  obtain ⟨⟨va, pa, ea⟩, ha⟩ : ∃ a, U32R m 0 0 mst32 = a := ⟨_, rfl⟩
  have ga : pa ≤ m.length := by have := u32_at (er := 0) (most := mst32) (Nat.zero_le m.length); rwa [ha] at this
  rw [ha] at hx0
  dsimp only at hx0
  obtain ⟨⟨vb, pb, eb⟩, hb'⟩ : ∃ a, U64R m pa ea mst64 = a := ⟨_, rfl⟩
  have gb : pb ≤ m.length := by have := u64_at (er := ea) (most := mst64) ga; rwa [hb'] at this
  rw [hb'] at hx0
  dsimp only at hx0
  obtain ⟨⟨vc, pc, ec⟩, hc'⟩ : ∃ a, U64R m pb eb mst64 = a := ⟨_, rfl⟩
  have gc : pc ≤ m.length := by have := u64_at (er := eb) (most := mst64) gb; rwa [hc'] at this
  rw [hc'] at hx0
  dsimp only at hx0
  obtain ⟨⟨vd, pd, ed⟩, hd'⟩ : ∃ a, U32R m pc ec mst32 = a := ⟨_, rfl⟩
  have gd : pd ≤ m.length := by have := u32_at (er := ec) (most := mst32) gc; rwa [hd'] at this
  rw [hd'] at hx0
  dsimp only at hx0
  obtain ⟨⟨ve, pe, ee⟩, he'⟩ : ∃ a, U32R m pd ed mst32 = a := ⟨_, rfl⟩
  have ge : pe ≤ m.length := by have := u32_at (er := ed) (most := mst32) gd; rwa [he'] at this
  rw [he'] at hx0
  dsimp only at hx0
  (refine Zm rfl rfl rfl rfl rfl ?_; (iterate 2 (refine hx_plain rfl ?_; refine h_extract rfl rfl rfl rfl rfl ?_)); refine Za rfl rfl rfl rfl rfl ?_; refine Zn rfl rfl rfl rfl rfl ?_; refine hc_seq ?_; refine Zw rfl rfl rfl rfl rfl ?_; refine Zc rfl rfl rfl rfl rfl rfl rfl ?_; refine Zt ?_; refine hc_condF rfl ?_; refine hc_skip ?_; refine hq_then ?_; refine Zl rfl ?_; (refine h_alloc rfl rfl IC.zero rfl rfl rfl (fun _ => ?_)); refine Zt ?_; refine Zw rfl rfl rfl rfl rfl ?_; refine hx_plain rfl ?_)
  refine h_callB hB hF rfl rfl rfl rfl rfl rfl rfl rfl EC.out (.cons (.tail .head) .nil) ((u32_all p m 0 0 mst32 E g hml (Nat.zero_le _)).toB hI) ?_
  rintro u M ⟨rfl, rfl⟩
  rw [ha]
  (refine Zm rfl rfl rfl rfl rfl ?_; refine hx_plain rfl ?_)
  refine h_callB hB hF rfl rfl rfl rfl rfl rfl rfl rfl EC.out (.cons .head .nil) ((u64_all p m pa ea mst64 E g hml ga).toB hI) ?_
  rintro u M ⟨rfl, rfl⟩
  rw [hb']
  (refine Zm rfl rfl rfl rfl rfl ?_; refine hx_plain rfl ?_)
  refine h_callB hB hF rfl rfl rfl rfl rfl rfl rfl rfl EC.out (.cons .head .nil) ((u64_all p m pb eb mst64 E g hml gb).toB hI) ?_
  rintro u M ⟨rfl, rfl⟩
  rw [hc']
  (refine Zf rfl rfl rfl rfl rfl ?_; refine hx_plain rfl ?_; refine h_store rfl rfl rfl rfl rfl rfl IC.size (.tail .head) rfl rfl (Nat.le_of_ble_eq_true rfl) (List.all_eq_true.1 rfl) ?_; (iterate 2 (refine Zf rfl rfl rfl rfl rfl ?_; refine hx_plain rfl ?_; refine h_store rfl rfl rfl rfl rfl rfl IC.size .head rfl rfl (Nat.le_of_ble_eq_true rfl) (List.all_eq_true.1 rfl) ?_)); refine Zt ?_; refine Zw rfl rfl rfl rfl rfl ?_; refine hx_plain rfl ?_)
  refine h_callB hB hF rfl rfl rfl rfl rfl rfl rfl rfl EC.out (.cons (.tail .head) .nil) ((u32_all p m pc ec mst32 E g hml gc).toB hI) ?_
  rintro u M ⟨rfl, rfl⟩
  rw [hd']
  (refine Zm rfl rfl rfl rfl rfl ?_; refine hx_plain rfl ?_)
  refine h_callB hB hF rfl rfl rfl rfl rfl rfl rfl rfl EC.out (.cons .head .nil) ((u32_all p m pd ed mst32 E g hml gd).toB hI) ?_
  rintro u M ⟨rfl, rfl⟩
  rw [he']
  (refine Zf rfl rfl rfl rfl rfl ?_; refine hx_plain rfl ?_; refine h_store rfl rfl rfl rfl rfl rfl IC.size (.tail .head) rfl rfl (Nat.le_of_ble_eq_true rfl) (List.all_eq_true.1 rfl) ?_; refine Zf rfl rfl rfl rfl rfl ?_; refine hx_plain rfl ?_; refine h_store rfl rfl rfl rfl rfl rfl IC.size .head rfl rfl (Nat.le_of_ble_eq_true rfl) (List.all_eq_true.1 rfl) ?_; refine Zt ?_; refine hc_seq ?_; refine Zw rfl rfl rfl rfl rfl ?_; refine hx_plain rfl ?_)
  refine h_call rfl rfl rfl rfl rfl rfl rfl rfl EC.out (.cons (.tail .head) .nil) (err_spec p m pe ee) ?_
  rintro u M ⟨rfl, rfl⟩
  have hxr : x0.er = ee := by rw [← hx0]
  have hxa : x0.at_ = pe := by rw [← hx0]
  have hxd : x0.ds = [] := by rw [← hx0]
  have hxe : x0.es = [] := by rw [← hx0]
  have hxo : x0.ov = false := by rw [← hx0]
  by_cases q2 : ee = 0
  case neg =>
    rw [if_pos (by rw [hxr]; exact q2), hxr]
    (refine Zm rfl rfl rfl rfl rfl ?_; (iterate 2 (refine hx_plain rfl ?_; refine h_extract rfl rfl rfl rfl rfl ?_)); refine Za rfl rfl rfl rfl rfl ?_; refine Zn rfl rfl rfl rfl rfl ?_; refine Zw rfl rfl rfl rfl rfl ?_; refine Zc rfl rfl rfl rfl rfl rfl rfl ?_; refine Zt ?_; refine hc_condDT rfl (by omega) ?_; refine Zl rfl ?_; refine h_build rfl inferInstance rfl rfl rfl rfl ?_; refine Zm rfl rfl rfl rfl rfl ?_; refine hx_plain rfl ?_; refine h_storeAll rfl rfl rfl rfl rfl rfl IC.size (.tail (.tail .head)) rfl rfl rfl (List.all_eq_true.1 rfl) ?_; refine Zn rfl rfl rfl rfl rfl ?_; refine hc_ret ?_; refine hq_ret_then ?_)
    exact hq_R2 (.inr rfl) rfl (rv_cell rfl .head UC.out rfl IC.size) (rv_tmp rfl) ⟨⟨none, 0, 0⟩, ⟨none, 0, 0⟩, rfl, rfl⟩ (fun _ h => St.rowV_nil (St.rowV_nil h.emp))
  subst q2
  rw [if_neg (by rw [hxr]; simp)]
  (refine Zm rfl rfl rfl rfl rfl ?_; (iterate 2 (refine hx_plain rfl ?_; refine h_extract rfl rfl rfl rfl rfl ?_)); refine Za rfl rfl rfl rfl rfl ?_; refine Zn rfl rfl rfl rfl rfl ?_; refine Zw rfl rfl rfl rfl rfl ?_; refine Zc rfl rfl rfl rfl rfl rfl rfl ?_; refine Zt ?_; refine hc_condF rfl ?_; refine hc_skip ?_; refine hq_then ?_; refine hc_seq ?_; refine Zl rfl ?_)
  refine h_loadP (cs' := #[.int .i64 va, .int .i64 vb, .int .i64 vc, .int .i64 vd, .int .i64 ve, .int .i64 0, .int .i64 0, .int .i64 0, .int .i64 0, .slice none 0 0, .slice none 0 0, .bool false]) rfl rfl UC.out rfl IC.size (.tail .head) rfl (by kernel_rfl) rfl rfl ?_
  (refine hx_plain rfl ?_)
  refine h_callR rfl rfl rfl rfl rfl rfl EC.out ((headOfReply_spec ⟨va, vb, vc, vd, ve, 0, 0, 0, 0, ⟨none, 0, 0⟩, ⟨none, 0, 0⟩, false⟩).reads _) ?_
  have hxh : x0.r = ⟨va, vb, vc, vd, ve, 0, 0, 0, 0, ⟨none, 0, 0⟩, ⟨none, 0, 0⟩, false⟩ := by rw [← hx0]
  rw [← hxh]
  by_cases q3 : x0.r.head = 0
  case neg =>
    rw [if_pos q3]
    obtain ⟨hd, hhd⟩ : ∃ hd, x0.r.head = hd := ⟨_, rfl⟩
    rw [hhd] at q3 ⊢
    (refine Zn rfl rfl rfl rfl rfl ?_; refine Zw rfl rfl rfl rfl rfl ?_; refine Zc rfl rfl rfl rfl rfl rfl rfl ?_; refine Zt ?_; refine hc_condDT rfl (by omega) ?_; refine Zl rfl ?_; refine h_build rfl inferInstance rfl rfl rfl rfl ?_; refine Zm rfl rfl rfl rfl rfl ?_; refine hx_plain rfl ?_; refine h_storeAll rfl rfl rfl rfl rfl rfl IC.size (.tail (.tail .head)) rfl rfl rfl (List.all_eq_true.1 rfl) ?_; refine Zn rfl rfl rfl rfl rfl ?_; refine hc_ret ?_; refine hq_ret_then ?_)
    exact hq_R2 (.inr rfl) rfl (rv_cell rfl .head UC.out rfl IC.size) (rv_tmp rfl) ⟨⟨none, 0, 0⟩, ⟨none, 0, 0⟩, rfl, rfl⟩ (fun _ h => St.rowV_nil (St.rowV_nil h.emp))
  rw [if_neg (fun h => h q3), q3]
  (refine Zn rfl rfl rfl rfl rfl ?_; refine Zw rfl rfl rfl rfl rfl ?_; refine Zc rfl rfl rfl rfl rfl rfl rfl ?_; refine Zt ?_; refine hc_condF rfl ?_; refine hc_skip ?_; refine hq_then ?_; refine Zl rfl ?_; (refine h_alloc rfl rfl IC.zero rfl rfl rfl (fun _ => ?_)); refine hx_plain rfl ?_; refine h_storeAll rfl rfl rfl rfl rfl rfl IC.size .head rfl rfl rfl (List.all_eq_true.1 rfl) ?_; refine Zt ?_; refine hc_seq ?_; refine Zl rfl ?_)
  rename_i b2 bx bo
  refine hx1_conv rfl rfl (C' := St w F [rpB bx x0.r, RdrX p m pe 0, Blk b2 (.cells RepV.z.cs 30 (0, 0)), ovB bo false]) (fun _ h => by rw [hxh]; exact h.sub (.cons (.tail (.tail .head)) (.cons (.tail .head) (.cons (.tail .head) (.cons .head .nil))))) ?_
  refine h_callB hB hF rfl rfl rfl rfl rfl rfl rfl rfl EC.out (.cons .head .nil) ((show SpecB Tryz.prog w1 52 [ptrV bx 0, ptrV bo 0] [rpB bx x0.r] (fun u M => M = [RowV (rpE bx bo) 110 u (rpFs' x0.r), rpB bx x0.r]) from ofReply_spec hk bx bo x0.r (headP_op q3)).know (φ := fun u => ∃ a c, u = .slice a (rpFs' x0.r).length c) (fun v M w0 F w hp hst => by subst hp; exact St.rowV_shapeS hst .head)) ?_
  rintro u M ⟨⟨a1, c1, rfl⟩, rfl⟩
  obtain ⟨fs, hfs⟩ : ∃ fs, rpFs' x0.r = fs := ⟨_, rfl⟩
  have hfl : fs.length ≤ 4 := by rw [← hfs]; exact rpFs_len _
  rw [hfs]
  (refine hx_plain rfl ?_; refine h_len_slice rfl rfl rfl UC.out rfl rfl rfl ?_; refine Zm rfl rfl rfl rfl rfl ?_; refine Zt ?_; refine hc_block ?_)
  refine hc_cut (id := 0) (Y := Unit) (fun _ => [(4, ptrV p 0), (2, ptrV b2 0), (6, ptrV bx 0)]) (fun _ => [RdrX p m (takePs m x0 fs).at_ (takePs m x0 fs).er, DpO bx (takePs m x0 fs).r (takePs m x0 fs).ds (takePs m x0 fs).es, Blk b2 (.cells RepV.z.cs 30 (0, 0))]) (fun _ => (takePs m x0 fs).ov = false) ?_ ?_
  · refine hc_loop (X := Nat) (fun i => [(4, ptrV p 0), (2, ptrV b2 0), (6, ptrV bx 0), (10, ptrV bo 0), (54, .slice a1 fs.length c1), (55, .int .i64 (fs.length : Int)), (56, .int .i64 (i : Int))]) (fun i => [RowV (rpE bx bo) 110 (.slice a1 fs.length c1) fs, RdrX p m (takePs m x0 (fs.take i)).at_ (takePs m x0 (fs.take i)).er, DpO bx (takePs m x0 (fs.take i)).r (takePs m x0 (fs.take i)).ds (takePs m x0 (fs.take i)).es, Blk b2 (.cells RepV.z.cs 30 (0, 0)), ovB bo (takePs m x0 (fs.take i)).ov]) (fun i => i ≤ fs.length ∧ (takePs m x0 (fs.take i)).ov = false) (fun i => fs.length - i) 0 (.cons rfl (.cons rfl (.cons rfl (.cons rfl (.cons rfl (.cons rfl (.cons rfl .nil))))))) ⟨Nat.zero_le _, hxo⟩ (fun _ h => ?_) ?_
    · rw [List.take_zero]
      show St w F [_, RdrX p m x0.at_ x0.er, DpO bx x0.r x0.ds x0.es, _, ovB bo x0.ov] _
      rw [hxa, hxr, hxd, hxe, hxo]
      rw [hxh] at h ⊢
      have h2 := St.rowV_nil (E := byteE) (T := 5) (St.rowV_nil (E := entE) (T := 94) h)
      have h3 := DpO_shut (p := bx) (r := ⟨va, vb, vc, vd, ve, 0, 0, 0, 0, ⟨none, 0, 0⟩, ⟨none, 0, 0⟩, false⟩) (ds := []) (es := []) (sl := ⟨none, 0, 0⟩) (ll := ⟨none, 0, 0⟩) (St.sub (.cons (.tail (.tail (.tail .head))) (.cons .head (.cons .head (.cons .head (.cons .head (.cons .head (.cons .head .nil))))))) h2)
      exact h3.sub (.cons (.tail .head) (.cons (.tail .head) (.cons .head (.cons .head (.cons .head .nil)))))
    rintro i ⟨hi, hov⟩
    by_cases hlt : i < fs.length
    · obtain ⟨f, hf⟩ : ∃ f, fs[i]? = some f := ⟨_, List.getElem?_eq_getElem hlt⟩
      have e1 : fs[((i : Nat) : Int).toNat]? = some f := hf
      have hnx : takePs m x0 (fs.take (i + 1)) = f.take m (takePs m x0 (fs.take i)) := by
        unfold takePs
        rw [List.take_add_one, hf, List.foldl_append]
        rfl
      have hall : takePs m x0 fs = takePs m (takePs m x0 (fs.take (i + 1))) (fs.drop (i + 1)) := by
        unfold takePs
        rw [← List.foldl_append, List.take_append_drop]
      have hel := takePs_es (bs := m) (fs.take i) (x := x0)
      rw [hxe, List.length_take, List.length_nil] at hel
      refine hc_rowV .head ?_ ?_
      · intro _ e
        rw [e] at hlt
        exact absurd hlt (Nat.not_lt_zero _)
      rintro g2 cap e
      injection e with e1' e2' e3'
      subst e1' e3'
      obtain ⟨t, v0, fn, k1, k2, k3, k4⟩ := takeP hI bx bo p hmb hml (takePs m x0 (fs.take i)) (takePs_at _ (by rw [hxa]; exact ge)) (by omega) f
      obtain ⟨b, hb2⟩ : ∃ b, (f.take m (takePs m x0 (fs.take i))).ov = b := ⟨_, rfl⟩
      rw [hb2] at k4
      (refine Zl rfl ?_; refine h_cmp rfl rfl rfl rfl rfl rfl ?_; refine Zt ?_; refine hc_seq ?_; refine hc_condDT rfl (by omega) ?_; refine hc_skip ?_; refine hq_then ?_; refine hc_seq ?_; refine hc_block ?_; refine Zl rfl ?_; refine h_rowAddr rfl rfl rfl UC.out IC.size (by omega) (by omega) rfl rfl ?_; refine hx_plain rfl ?_; refine h_rowLoad1 rfl .head rfl UC.out rfl (by with_reducible assumption) rfl rfl rfl ?_; refine Zn rfl rfl rfl rfl rfl ?_; refine Zw rfl rfl rfl rfl rfl ?_; refine Zm rfl rfl rfl rfl rfl ?_; refine hx_plain rfl ?_)
      refine h_invokeB hB hF rfl rfl rfl rfl (congrArg some k1) rfl k2 rfl rfl k3 (.cons (.tail .head) (.cons (.tail .head) (.cons (.tail (.tail .head)) .nil))) k4 ?_
      rintro u M rfl
      cases b
      · (refine Zt ?_; refine Zl rfl ?_; refine h_load rfl rfl UC.out rfl (.tail (.tail .head)) rfl rfl rfl ?_; refine Zt ?_; refine hc_condF rfl ?_; refine hc_skip ?_; refine hq_norm_block ?_; refine hq_then ?_; refine hc_lex ?_; refine hx_plain rfl ?_; refine h_arithI rfl rfl rfl rfl (by omega) rfl rfl ?_; refine Zm rfl rfl rfl rfl rfl ?_; refine hx_nil ?_)
        refine hq_round (i + 1) (by omega) ⟨by omega, by rw [hnx]; exact hb2⟩ (.cons rfl (.cons rfl (.cons rfl (.cons rfl (.cons rfl (.cons rfl (.cons rfl .nil))))))) (fun _ h => ?_)
        rw [hnx, hb2]
        exact St.rowV_mk (h.sub (.cons (.tail (.tail (.tail .head))) (.cons .head (.cons .head (.cons (.tail .head) (.cons .head .nil))))))
      · rw [hall, show finP m (takePs m (takePs m x0 (fs.take (i + 1))) (fs.drop (i + 1))) = (.z, [], [], 46) from if_pos (takePs_ov _ (by rw [hnx]; exact hb2))]
        (refine Zt ?_; refine Zl rfl ?_; refine h_load rfl rfl UC.out rfl (.tail (.tail .head)) rfl rfl rfl ?_; refine Zt ?_; refine hc_condT rfl ?_; refine Zl rfl ?_; refine h_build rfl inferInstance rfl rfl rfl rfl ?_; refine hx_plain rfl ?_; refine h_storeAll rfl rfl rfl rfl rfl rfl IC.size (.tail (.tail (.tail (.tail .head)))) rfl rfl rfl (List.all_eq_true.1 rfl) ?_; refine Zn rfl rfl rfl rfl rfl ?_; refine hc_ret ?_; refine hq_ret_block ?_; (iterate 2 (refine hq_ret_then ?_)); refine hq_cut_ret ?_; refine hq_ret_block ?_; refine hq_ret_then ?_)
        exact hq_R2 (.inr rfl) rfl (rv_cell rfl .head UC.out rfl IC.size) (rv_tmp rfl) ⟨⟨none, 0, 0⟩, ⟨none, 0, 0⟩, rfl, rfl⟩ (fun _ h => St.rowV_nil (St.rowV_nil h.emp))
    · (refine Zl rfl ?_; refine h_cmp rfl rfl rfl rfl rfl rfl ?_; refine Zt ?_; refine hc_seq ?_; refine hc_condDF rfl (by omega) ?_; refine hc_exit ?_; (iterate 2 (refine hq_exit_then ?_)))
      rw [List.take_of_length_le (by omega)] at hov
      refine hq_cut () hov (.cons rfl (.cons rfl (.cons rfl .nil))) (fun _ h => ?_)
      rw [List.take_of_length_le (by omega)] at h
      exact h.sub (.cons (.tail .head) (.cons (.tail .head) (.cons (.tail .head) .nil)))
  rintro ⟨⟩ hov
  obtain ⟨⟨r2, ds2, es2, at2, er2, ov2⟩, hy⟩ : ∃ y, takePs m x0 fs = y := ⟨_, rfl⟩
  rw [hy] at hov ⊢
  obtain rfl : ov2 = false := hov
  unfold finP
  dsimp only
  rw [if_neg Bool.false_ne_true]
  (refine hq_exit_block ?_; refine hq_then ?_)
  refine hc_open (.tail .head) DpO_open ?_
  rintro ⟨⟨da, dn, dc⟩, ⟨la, ln, lc⟩⟩
  refine hc_know (φ := dn = ds2.length ∧ ln = es2.length) (fun _ h => by obtain ⟨_, _, e⟩ := St.rowV_shapeS h (.tail .head); obtain ⟨_, _, e'⟩ := St.rowV_shapeS h (.tail (.tail .head)); injection e; injection e'; exact ⟨by assumption, by assumption⟩) ?_
  rintro ⟨hdn, hln⟩
  (refine hc_seq ?_; refine Zw rfl rfl rfl rfl rfl ?_; refine hx_plain rfl ?_)
  refine h_call rfl rfl rfl rfl rfl rfl rfl rfl EC.out (.cons (.tail (.tail (.tail .head))) .nil) (close_spec p m at2 er2) ?_
  rintro u M ⟨rfl, rfl⟩
  obtain ⟨cl, hcl⟩ : ∃ cl, CloseR m at2 er2 = cl := ⟨_, rfl⟩
  rw [hcl]
  by_cases q4 : cl = 0
  case neg =>
    rw [if_pos q4]
    (refine Zn rfl rfl rfl rfl rfl ?_; refine Zw rfl rfl rfl rfl rfl ?_; refine Zc rfl rfl rfl rfl rfl rfl rfl ?_; refine Zt ?_; refine hc_condDT rfl (by omega) ?_; refine Zl rfl ?_; refine h_build rfl inferInstance rfl rfl rfl rfl ?_; refine Zm rfl rfl rfl rfl rfl ?_; refine hx_plain rfl ?_; refine h_storeAll rfl rfl rfl rfl rfl rfl IC.size (.tail (.tail (.tail (.tail .head)))) rfl rfl rfl (List.all_eq_true.1 rfl) ?_; refine Zn rfl rfl rfl rfl rfl ?_; refine hc_ret ?_; refine hq_ret_then ?_)
    exact hq_R2 (.inr rfl) rfl (rv_cell rfl .head UC.out rfl IC.size) (rv_tmp rfl) ⟨⟨none, 0, 0⟩, ⟨none, 0, 0⟩, rfl, rfl⟩ (fun _ h => St.rowV_nil (St.rowV_nil h.emp))
  subst q4
  rw [if_neg (fun h => h rfl)]
  (refine Zn rfl rfl rfl rfl rfl ?_; refine Zw rfl rfl rfl rfl rfl ?_; refine Zc rfl rfl rfl rfl rfl rfl rfl ?_; refine Zt ?_; refine hc_condF rfl ?_; refine hc_skip ?_; refine hq_then ?_; refine hc_seq ?_; refine Zl rfl ?_)
  have hchk := RepV.chk_dv (⟨r2, ds2, es2, at2, er2, false⟩ : TkP).fin es2 ⟨da, dn, dc⟩ ⟨la, ln, lc⟩ hdn hln
  obtain ⟨ck, hck⟩ : ∃ ck, (⟨r2, ds2, es2, at2, er2, false⟩ : TkP).fin.chk es2 = ck := ⟨_, rfl⟩
  rw [hck] at hchk ⊢
  obtain ⟨client, seq, epoch, op, status, aid, akind, asize, achange, dv, lv, more⟩ := r2
  unfold rpB
  dsimp only [RepV.cs, SlV.v]
  skip
  refine h_loadP (cs' := #[.int .i64 client, .int .i64 seq, .int .i64 epoch, .int .i64 op, .int .i64 status, .int .i64 aid, .int .i64 akind, .int .i64 asize, .int .i64 achange, .slice da dn dc, .slice la ln lc, .bool more]) rfl rfl UC.out rfl IC.size (.tail .head) rfl (by kernel_rfl) rfl rfl ?_
  (refine hx_plain rfl ?_)
  refine h_callRd rfl rfl rfl rfl rfl rfl EC.out (fun w' h => SpecB.rd (checkReply_spec (hk.but (h.butB hB hF)) ⟨client, seq, epoch, op, status, aid, akind, asize, achange, ⟨da, dn, dc⟩, ⟨la, ln, lc⟩, more⟩ (St.rdRowV h (.tail (.tail (.tail .head)))))) ?_
  rw [show (⟨client, seq, epoch, op, status, aid, akind, asize, achange, ⟨da, dn, dc⟩, ⟨la, ln, lc⟩, more⟩ : RepV).chk es2 = ck from hchk]
  by_cases q5 : ck = 0
  case neg =>
    rw [if_pos q5]
    (refine Zn rfl rfl rfl rfl rfl ?_; refine Zw rfl rfl rfl rfl rfl ?_; refine Zc rfl rfl rfl rfl rfl rfl rfl ?_; refine Zt ?_; refine hc_condDT rfl (by omega) ?_; refine Zl rfl ?_; refine h_build rfl inferInstance rfl rfl rfl rfl ?_; refine Zm rfl rfl rfl rfl rfl ?_; refine hx_plain rfl ?_; refine h_storeAll rfl rfl rfl rfl rfl rfl IC.size (.tail (.tail (.tail (.tail .head)))) rfl rfl rfl (List.all_eq_true.1 rfl) ?_; refine Zn rfl rfl rfl rfl rfl ?_; refine hc_ret ?_; refine hq_ret_then ?_)
    exact hq_R2 (.inr rfl) rfl (rv_cell rfl .head UC.out rfl IC.size) (rv_tmp rfl) ⟨⟨none, 0, 0⟩, ⟨none, 0, 0⟩, rfl, rfl⟩ (fun _ h => St.rowV_nil (St.rowV_nil h.emp))
  subst q5
  rw [if_neg (fun h => h rfl)]
  (refine Zn rfl rfl rfl rfl rfl ?_; refine Zw rfl rfl rfl rfl rfl ?_; refine Zc rfl rfl rfl rfl rfl rfl rfl ?_; refine Zt ?_; refine hc_condF rfl ?_; refine hc_skip ?_; refine hq_then ?_; refine Zl rfl ?_)
  refine h_loadP (cs' := #[.int .i64 client, .int .i64 seq, .int .i64 epoch, .int .i64 op, .int .i64 status, .int .i64 aid, .int .i64 akind, .int .i64 asize, .int .i64 achange, .slice da dn dc, .slice la ln lc, .bool more]) rfl rfl UC.out rfl IC.size (.tail .head) rfl (by kernel_rfl) rfl rfl ?_
  (refine hx_plain rfl ?_; refine h_storeAll rfl rfl rfl rfl rfl rfl IC.size (.tail (.tail (.tail (.tail .head)))) rfl rfl rfl (List.all_eq_true.1 rfl) ?_; refine Zn rfl rfl rfl rfl rfl ?_; refine hc_ret ?_)
  exact hq_R2 (.inr rfl) rfl (rv_cell rfl .head UC.out rfl IC.size) (rv_tmp rfl) ⟨⟨da, dn, dc⟩, ⟨la, ln, lc⟩, rfl, rfl⟩ (fun _ h => h.sub (.cons (.tail (.tail (.tail .head))) (.cons (.tail (.tail (.tail .head))) .nil)))
end Go.Proofs.YtfolhmlldoepfaaGreatDoor
