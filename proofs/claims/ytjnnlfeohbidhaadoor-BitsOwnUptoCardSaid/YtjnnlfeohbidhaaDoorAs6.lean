import Derived.Test.YtjnnlfeohbidhaaDoorEngI
import Derived.Test.YtjnnlfeohbidhaaDoorTab
import Derived.Test.YtjnnlfeohbidhaaDoorAs5
namespace Go.Proofs.YtjnnlfeohbidhaaDoor
open Go Go.Proofs Go.RowKit Go.Extern.Stop Go.Stop Go.Extern
set_option maxRecDepth 4000

/-- A trouble, as an error. -/
abbrev trb (e : Int) : Value := .iface 87 (.agg #[.int .i64 e])
abbrev tgt (E : Addr) : Value := .iface 126 (.pointer (some E))
abbrev rty (t : Nat) : Value := .iface 111 (.agg #[.pointer (some ⟨2, t, none⟩)])
/-- What is known of the package variables. -/
abbrev gl (E : Addr) : List (Nat × List Value) := [(0, [tgt E]), (1, [rty 85])]
theorem ext_ok {P : Program} {f : FuncId} {fn : Func} {e : Array Value → Sem Value} {args : Array Value} {v : Value} {w w' : World} (hf : P.funcs[f]? = some fn) (hname : (fn.name == "runtime.NumGoroutine") = false)
    (hb : fn.body.isNone = true) (hn : Extern.findNext fn = none) (he : Extern.find fn = some e) (h : (e args).run P w = .ok v w') : (callFunc f args).run P w = .ok (.value v) w' := by
  rw [run_callFunc_extern hf hname hb hn he, h]
  rfl
theorem k_typeOfS (v : Value) (w : World) : (Extern.ReflectliteType.typeOf #[.iface 126 v]).run Tryd.prog w = .ok (rty 126) w := by kernel_rfl
theorem k_compS (w : World) : ((ReflectliteType.method fun t => do Rtype.noPackHeld "Comparable" t; pure (Value.bool (← typeInfo t).comparable)) #[.agg #[.pointer (some ⟨2, 126, none⟩)]]).run Tryd.prog w = .ok (.bool true) w := by kernel_rfl
theorem m_comp (v : Value) (w : World) : (Go.method (Tryd.prog.types.size + Made.depth) 111 (.agg #[v]) "Comparable").run Tryd.prog w = .ok (105, .agg #[v]) w := by kernel_rfl
theorem m_is (e : Int) (w : World) : (Go.method (Tryd.prog.types.size + Made.depth) 87 (.agg #[.int .i64 e]) "Is").run Tryd.prog w = .ok (99, .agg #[.int .i64 e]) w := by kernel_rfl
theorem x_typeOfS (v : Value) (w : World) : (callFunc 72 #[.iface 126 v]).run Tryd.prog w = .ok (.value (rty 126)) w :=
  ext_ok (e := ReflectliteType.typeOf) Tryd.func72 (by kernel_rfl) (by kernel_rfl) (by kernel_rfl) (by kernel_rfl) (k_typeOfS v w)
theorem x_compS (w : World) : (callFunc 105 #[.agg #[.pointer (some ⟨2, 126, none⟩)]]).run Tryd.prog w = .ok (.value (.bool true)) w :=
  ext_ok (e := ReflectliteType.method fun t => do Rtype.noPackHeld "Comparable" t; pure (Value.bool (← typeInfo t).comparable)) Tryd.func105 (by kernel_rfl) (by kernel_rfl) (by kernel_rfl) (by kernel_rfl) (k_compS w)
theorem ta_is (v : Value) (w : World) : (Instr.typeAssert (.iface 87 v) 85 113 true).run Tryd.prog w = .ok (.tuple #[.iface 87 v, .bool true]) w := run_typeAssert_hasB Tryd.underlying113 (by kernel_rfl) v _ w
theorem eq_same (E : Addr) (w : World) : (binOp .eql 85 (tgt E) (tgt E)).run Tryd.prog w = .ok (.bool true) w := by
  obtain ⟨i, h1, h2⟩ := Option.map_eq_some_iff.1 (show (Tryd.prog.info? 126).map (·.comparable) = some true by kernel_rfl)
  obtain ⟨j, h3, h4⟩ := Option.map_eq_some_iff.1 (show (Tryd.prog.info? 147).map (·.size) = some 1 by kernel_rfl)
  exact run_eql_iface_ptr_same w _ Tryd.underlying85 Tryd.underlying126 h1 h2 h3
theorem eq_types (e : Int) (E : Addr) (w : World) : (binOp .eql 85 (trb e) (tgt E)).run Tryd.prog w = .ok (.bool false) w := run_eql_iface_types _ _ _ _ Tryd.underlying85 (by decide) w
theorem eq_nilR (t : Nat) (v : Value) (w : World) : (binOp .eql 85 (.iface t v) .nilIface).run Tryd.prog w = .ok (.bool false) w := run_eql_iface_nil_right _ _ Tryd.underlying85 w
theorem eq_nilA (t : Nat) (v : Value) (w : World) : (binOp .eql 20 (.iface t v) .nilIface).run Tryd.prog w = .ok (.bool false) w := run_eql_iface_nil_right _ _ Tryd.underlying20 w

/-- (trouble).Is at errTrouble. -/
theorem tis_spec (e : Int) (E : Addr) (g : Nat) : SpecI Tryd.prog (gl E) g 99 [.agg #[.int .i64 e], tgt E] [] (fun v M => v = .bool true ∧ M = []) := by
  refine specI_of Tryd.func99 rfl rfl (Nat.le_of_ble_eq_true rfl) (fun w F hI hF => ?_)
  (refine hc_seq ?_; refine hc_lex ?_; refine hx_plain rfl ?_; (refine h_box rfl rfl rfl rfl rfl rfl (fun _ => ?_)); refine hx_plain rfl ?_; refine h_assign rfl rfl rfl rfl ?_; refine hx_nil ?_; refine hq_then ?_; refine hc_seq ?_; refine hc_lex ?_; refine hx_plain rfl ?_; refine h_move rfl rfl rfl rfl ?_; refine hx_plain rfl ?_)
  refine h_gload hI hF rfl rfl (.head _) rfl UC.out rfl rfl rfl ?_
  (refine hx_plain rfl ?_)
  refine h_eqIf rfl rfl rfl rfl (eq_same E) rfl rfl ?_
  (refine hx_plain rfl ?_; refine h_assign rfl rfl rfl rfl ?_; refine hx_nil ?_; refine hq_then ?_; refine hc_ret ?_)
  exact hq_ret1 (.inr rfl) rfl rfl ⟨rfl, rfl⟩ (fun _ h => h.emp)
/-- errors.is at a trouble and errTrouble. -/
theorem is_spec (e : Int) (E : Addr) (g : Nat) : SpecI Tryd.prog (gl E) g 73 [trb e, tgt E, .bool true] [] (fun v M => v = .bool true ∧ M = []) := by
  refine specI_of Tryd.func73 rfl rfl (Nat.le_of_ble_eq_true rfl) (fun w F hI hF => ?_)
  (refine hc_seq ?_; refine hc_lex ?_; refine hx_plain rfl ?_; refine h_assign rfl rfl rfl rfl ?_; refine hx_nil ?_; refine hq_then ?_; refine hc_block ?_)
  refine hc_loop (X := Unit) (fun _ => [(0, trb e), (1, tgt E), (2, .bool true), (6, .bool false)]) (fun _ => []) (fun _ => True) (fun _ => 0) () (.cons rfl (.cons rfl (.cons rfl (.cons rfl .nil)))) trivial (fun _ h => h) ?_
  rintro ⟨⟩ _
  (refine hc_block ?_; refine hc_seq ?_; refine hc_seq ?_; refine hc_lex ?_; refine hx_plain rfl ?_; refine h_move rfl rfl rfl rfl ?_; refine hx_plain rfl ?_; refine h_move rfl rfl rfl rfl ?_; refine hx_yes rfl rfl rfl ?_; refine h_move rfl rfl rfl rfl ?_; refine hx_yes rfl rfl rfl ?_; refine h_move rfl rfl rfl rfl ?_; refine hx_yes rfl rfl rfl ?_)
  refine h_eqIf rfl rfl rfl rfl (eq_types e E) rfl rfl ?_
  (refine hx_plain rfl ?_; refine h_pickT rfl rfl rfl rfl rfl ?_; refine hx_nil ?_; refine hq_then ?_; refine hc_condF rfl ?_; refine hc_skip ?_; refine hq_then ?_; refine hc_seq ?_; refine hc_seq ?_; refine hc_lex ?_; refine hx_plain rfl ?_; refine h_move rfl rfl rfl rfl ?_; refine hx_plain rfl ?_)
  refine h_typeAssert rfl rfl rfl (ta_is _) rfl rfl ?_
  (refine hx_plain rfl ?_; refine h_move rfl rfl rfl rfl ?_; refine hx_plain rfl ?_; refine h_extract rfl rfl rfl rfl rfl ?_; refine hx_plain rfl ?_; refine h_extract rfl rfl rfl rfl rfl ?_; refine hx_plain rfl ?_; refine h_assign rfl rfl rfl rfl ?_; refine hx_plain rfl ?_; refine h_assign rfl rfl rfl rfl ?_; refine hx_nil ?_; refine hq_then ?_; refine hc_seq ?_; refine hc_lex ?_; refine hx_plain rfl ?_; refine h_move rfl rfl rfl rfl ?_; refine hx_plain rfl ?_; refine h_move rfl rfl rfl rfl ?_; refine hx_yes rfl rfl rfl ?_; refine h_move rfl rfl rfl rfl ?_; refine hx_yes rfl rfl rfl ?_; refine h_move rfl rfl rfl rfl ?_; refine hx_yes rfl rfl rfl ?_)
  refine h_invokeI hI hF rfl rfl rfl rfl rfl rfl (m_is e) rfl rfl EC.out .nil (tis_spec e E g) ?_
  rintro v M ⟨rfl, rfl⟩
  (refine hx_plain rfl ?_; refine h_pickT rfl rfl rfl rfl rfl ?_; refine hx_nil ?_; refine hq_then ?_; refine hc_condT rfl ?_; refine hc_seq ?_; refine hc_lex ?_; refine hx_plain rfl ?_; refine h_assign rfl rfl rfl rfl ?_; refine hx_nil ?_; refine hq_then ?_; refine hc_ret ?_; refine hq_ret_then ?_; refine hq_ret_block ?_; refine hq_ret_then ?_; refine hq_ret_block ?_)
  exact hq_ret1 (.inr rfl) rfl rfl ⟨rfl, rfl⟩ (fun _ h => h.emp)
theorem isT_spec (e : Int) (E : Addr) (g : Nat) : SpecI Tryd.prog (gl E) g 66 [trb e, tgt E] [] (fun v M => v = .bool true ∧ M = []) := by
  refine specI_of Tryd.func66 rfl rfl (Nat.le_of_ble_eq_true rfl) (fun w F hI hF => ?_)
  (refine hc_seq ?_; refine hc_lex ?_; refine hx_plain rfl ?_; refine h_assign rfl rfl rfl rfl ?_; refine hx_nil ?_; refine hq_then ?_; refine hc_seq ?_; refine hc_seq ?_; refine hc_lex ?_; refine hx_plain rfl ?_; refine h_move rfl rfl rfl rfl ?_; refine hx_plain rfl ?_)
  refine h_eqIf rfl rfl rfl rfl (eq_nilR _ _) rfl rfl ?_
  (refine hx_plain rfl ?_; refine h_move rfl rfl rfl rfl ?_; refine hx_yes rfl rfl rfl ?_; refine h_move rfl rfl rfl rfl ?_; refine hx_yes rfl rfl rfl ?_)
  refine h_eqIf rfl rfl rfl rfl (eq_nilR _ _) rfl rfl ?_
  (refine hx_plain rfl ?_; refine h_pickF rfl rfl rfl rfl rfl ?_; refine hx_nil ?_; refine hq_then ?_; refine hc_condF rfl ?_; refine hc_skip ?_; refine hq_then ?_; refine hc_seq ?_; refine hc_lex ?_; refine hx_plain rfl ?_; refine h_move rfl rfl rfl rfl ?_; refine hx_plain rfl ?_)
  refine h_callX rfl rfl rfl rfl rfl (fun w _ => x_typeOfS _ w) rfl rfl ?_
  (refine hx_plain rfl ?_)
  refine h_invokeX rfl rfl rfl rfl rfl (m_comp _) (fun w _ => x_compS w) rfl rfl ?_
  (refine hx_plain rfl ?_; refine h_assign rfl rfl rfl rfl ?_; refine hx_nil ?_; refine hq_then ?_; refine hc_seq ?_; refine hc_lex ?_; refine hx_plain rfl ?_; refine h_move rfl rfl rfl rfl ?_; refine hx_plain rfl ?_; refine h_move rfl rfl rfl rfl ?_; refine hx_plain rfl ?_; refine h_move rfl rfl rfl rfl ?_; refine hx_plain rfl ?_)
  refine h_callI hI hF rfl rfl rfl rfl rfl rfl rfl rfl EC.out .nil (is_spec e E g) ?_
  rintro v M ⟨rfl, rfl⟩
  (refine hx_plain rfl ?_; refine h_assign rfl rfl rfl rfl ?_; refine hx_nil ?_; refine hq_then ?_; refine hc_ret ?_)
  exact hq_ret1 (.inr rfl) rfl rfl ⟨rfl, rfl⟩ (fun _ h => h.emp)
end Go.Proofs.YtjnnlfeohbidhaaDoor
