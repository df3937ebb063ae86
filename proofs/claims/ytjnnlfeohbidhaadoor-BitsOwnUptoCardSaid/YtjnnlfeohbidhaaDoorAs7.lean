import Derived.Test.YtjnnlfeohbidhaaDoorAs6
namespace Go.Proofs.YtjnnlfeohbidhaaDoor
open Go Go.Proofs Go.RowKit Go.Extern.Stop Go.Stop Go.Extern
set_option maxRecDepth 4000

theorem x_valueOfP (t : Addr) (w : World) : (callFunc 74 #[.iface 90 (.pointer (some t))]).run Tryd.prog w
    = .ok (.value (.agg #[.pointer (some ⟨2, 90, none⟩), .pointer (some ⟨w.heap.size, 0, none⟩), .int .u64 150])) (w.alloc (.cells #[.pointer (some t)] 90 (0, 0))) :=
  ext_ok (e := fun args => ReflectliteValue.unpack (args.getD 0 (.tuple #[]))) Tryd.func74 (by kernel_rfl) (by kernel_rfl) (by kernel_rfl) (by kernel_rfl) (r_valueOf t w)
theorem x_valueOfT (e : Int) (w : World) : (callFunc 74 #[trb e]).run Tryd.prog w
    = .ok (.value (.agg #[.pointer (some ⟨2, 87, none⟩), .pointer (some ⟨w.heap.size, 0, none⟩), .int .u64 153])) (w.alloc (.cells #[.int .i64 e] 87 (0, 0))) :=
  ext_ok (e := fun args => ReflectliteValue.unpack (args.getD 0 (.tuple #[]))) Tryd.func74 (by kernel_rfl) (by kernel_rfl) (by kernel_rfl) (by kernel_rfl) (r_valueOfT e w)
theorem x_type (a : Addr) (w : World) : (callFunc 75 #[.agg #[.pointer (some ⟨2, 90, none⟩), .pointer (some a), .int .u64 150]]).run Tryd.prog w = .ok (.value (rty 90)) w :=
  ext_ok (e := ReflectliteValue.methodAny (ReflectliteValue.valueError "reflectlite.Value.Type" 0) (fun t _ _ _ => ReflectliteType.toType t)) Tryd.func75 (by kernel_rfl) (by kernel_rfl) (by kernel_rfl) (by kernel_rfl) (r_type a w)
theorem m_kind (h : Value) (w : World) : (Go.method (Tryd.prog.types.size + Made.depth) 111 (.agg #[h]) "Kind").run Tryd.prog w = .ok (94, h) w := by kernel_rfl
theorem m_elem (h : Value) (w : World) : (Go.method (Tryd.prog.types.size + Made.depth) 111 (.agg #[h]) "Elem").run Tryd.prog w = .ok (106, .agg #[h]) w := by kernel_rfl
theorem m_implements (h : Value) (w : World) : (Go.method (Tryd.prog.types.size + Made.depth) 111 (.agg #[h]) "Implements").run Tryd.prog w = .ok (107, .agg #[h]) w := by kernel_rfl
theorem m_assignable (h : Value) (w : World) : (Go.method (Tryd.prog.types.size + Made.depth) 111 (.agg #[h]) "AssignableTo").run Tryd.prog w = .ok (104, .agg #[h]) w := by kernel_rfl
theorem x_kindP (w : World) : (callFunc 94 #[.pointer (some ⟨2, 90, none⟩)]).run Tryd.prog w = .ok (.value (.int .u8 22)) w :=
  ext_ok (e := ReflectliteType.abiMethod fun t => (fun a : Nat => Value.int IntKind.u8 (a : Int)) <$> Rtype.kind t) Tryd.func94 (by kernel_rfl) (by kernel_rfl) (by kernel_rfl) (by kernel_rfl) (r_kindP w)
theorem x_kindT (w : World) : (callFunc 94 #[.pointer (some ⟨2, 87, none⟩)]).run Tryd.prog w = .ok (.value (.int .u8 25)) w :=
  ext_ok (e := ReflectliteType.abiMethod fun t => (fun a : Nat => Value.int IntKind.u8 (a : Int)) <$> Rtype.kind t) Tryd.func94 (by kernel_rfl) (by kernel_rfl) (by kernel_rfl) (by kernel_rfl) (r_kindT w)
theorem x_elem (w : World) : (callFunc 106 #[.agg #[.pointer (some ⟨2, 90, none⟩)]]).run Tryd.prog w = .ok (.value (rty 87)) w :=
  ext_ok (e := ReflectliteType.method ReflectliteType.elem) Tryd.func106 (by kernel_rfl) (by kernel_rfl) (by kernel_rfl) (by kernel_rfl) (r_elem w)
theorem x_implements (w : World) : (callFunc 107 #[.agg #[.pointer (some ⟨2, 87, none⟩)], rty 85]).run Tryd.prog w = .ok (.value (.bool true)) w :=
  ext_ok (e := ReflectliteType.relation "Implements" ReflectliteType.implements_) Tryd.func107 (by kernel_rfl) (by kernel_rfl) (by kernel_rfl) (by kernel_rfl) (r_implements w)
theorem x_typeOfT (e : Int) (w : World) : (callFunc 72 #[trb e]).run Tryd.prog w = .ok (.value (rty 87)) w :=
  ext_ok (e := ReflectliteType.typeOf) Tryd.func72 (by kernel_rfl) (by kernel_rfl) (by kernel_rfl) (by kernel_rfl) (r_typeOf _ w)
theorem x_assignable (w : World) : (callFunc 104 #[.agg #[.pointer (some ⟨2, 87, none⟩)], rty 87]).run Tryd.prog w = .ok (.value (.bool true)) w :=
  ext_ok (e := ReflectliteType.relation "AssignableTo" ReflectliteType.assignableTo) Tryd.func104 (by kernel_rfl) (by kernel_rfl) (by kernel_rfl) (by kernel_rfl) (r_assignable w)
theorem x_isNil (a p : Addr) (W : World) (ha : W.cell? a = some (.pointer (some p))) : (callFunc 76 #[.agg #[.pointer (some ⟨2, 90, none⟩), .pointer (some a), .int .u64 150]]).run Tryd.prog W = .ok (.value (.bool false)) W :=
  ext_ok (e := ReflectliteValue.method (ReflectliteValue.valueError "reflectlite.Value.IsNil" 0) ReflectliteValue.isNil) Tryd.func76 (by kernel_rfl) (by kernel_rfl) (by kernel_rfl) (by kernel_rfl) (r_isNil a p W ha)
theorem x_elemV (a p : Addr) (W : World) (ha : W.cell? a = some (.pointer (some p))) : (callFunc 78 #[.agg #[.pointer (some ⟨2, 90, none⟩), .pointer (some a), .int .u64 150]]).run Tryd.prog W = .ok (.value (.agg #[.pointer (some ⟨2, 87, none⟩), .pointer (some p), .int .u64 409])) W :=
  ext_ok (e := ReflectliteValue.method (ReflectliteValue.valueError "reflectlite.Value.Elem" 0) ReflectliteValue.elem) Tryd.func78 (by kernel_rfl) (by kernel_rfl) (by kernel_rfl) (by kernel_rfl) (r_elemV a p W ha)
theorem x_set (ta b : Addr) (e : Int) (old : Value) (W : World) (hb : W.cell? b = some (.int .i64 e)) (ht : W.cell? ta = some old) (hf : W.frozen? ta = false) :
    (callFunc 79 #[.agg #[.pointer (some ⟨2, 87, none⟩), .pointer (some ta), .int .u64 409], .agg #[.pointer (some ⟨2, 87, none⟩), .pointer (some b), .int .u64 153]]).run Tryd.prog W = .ok (.value (.tuple #[])) (W.setCell ta (.int .i64 e)) :=
  ext_ok (e := ReflectliteValue.set) Tryd.func79 (by kernel_rfl) (by kernel_rfl) (by kernel_rfl) (by kernel_rfl) (r_set ta b (.int .i64 e) old W (r_loadVar b e W hb) (r_storeVar ta e old W ht hf))

/-- The Value of a pointer to a trouble, kept at vb. -/
abbrev valP (vb : Nat) : Value := .agg #[.pointer (some ⟨2, 90, none⟩), .pointer (some ⟨vb, 0, none⟩), .int .u64 150]
abbrev ptrT (t : Nat) : Value := .iface 90 (.pointer (some ⟨t, 0, none⟩))
set_option maxHeartbeats 1000000 in
/-- errors.as at a trouble and the variable t. -/
theorem asx_spec (e : Int) (t vb : Nat) (old : Value) (E : Addr) (g : Nat) : SpecI Tryd.prog (gl E) g 77 [trb e, ptrT t, valP vb, rty 87] [Blk vb (.cells #[.pointer (some ⟨t, 0, none⟩)] 90 (0, 0)), Blk t (.cells #[old] 87 (0, 0))]
    (fun v M => v = .bool true ∧ M = [Blk t (.cells #[.int .i64 e] 87 (0, 0))]) := by
  refine specI_of Tryd.func77 rfl rfl (Nat.le_of_ble_eq_true rfl) (fun w F hI hF => ?_)
  (refine hc_seq ?_; refine hc_lex ?_; refine hx_plain rfl ?_; (refine h_box rfl rfl rfl rfl rfl rfl (fun _ => ?_)); refine hx_plain rfl ?_; refine h_assign rfl rfl rfl rfl ?_; refine hx_nil ?_; refine hq_then ?_; refine hc_block ?_)
  rename_i b6
  refine hc_loop (X := Unit) (fun _ => [(0, trb e), (1, ptrT t), (3, rty 87), (6, .pointer (some ⟨b6, 0, none⟩)), (8, .bool false)]) (fun _ => [Blk b6 (.cells #[.pointer (some ⟨2, 90, none⟩), .pointer (some ⟨vb, 0, none⟩), .int .u64 150] 103 (0, 0)), Blk vb (.cells #[.pointer (some ⟨t, 0, none⟩)] 90 (0, 0)), Blk t (.cells #[old] 87 (0, 0))]) (fun _ => True) (fun _ => 0) () (.cons rfl (.cons rfl (.cons rfl (.cons rfl (.cons rfl .nil))))) trivial (fun _ h => h) ?_
  rintro ⟨⟩ _
  (refine hc_block ?_; refine hc_seq ?_; refine hc_seq ?_; refine hc_lex ?_; refine hx_plain rfl ?_; refine h_move rfl rfl rfl rfl ?_; refine hx_plain rfl ?_)
  refine h_callX rfl rfl rfl rfl rfl (fun w _ => x_typeOfT e w) rfl rfl ?_
  (refine hx_plain rfl ?_; refine h_move rfl rfl rfl rfl ?_; refine hx_plain rfl ?_)
  refine h_invokeX rfl rfl rfl rfl rfl (m_assignable _) (fun w _ => x_assignable w) rfl rfl ?_
  (refine hx_nil ?_; refine hq_then ?_; refine hc_condT rfl ?_; refine hc_seq ?_; refine hc_lex ?_; refine hx_plain rfl ?_; refine h_loadP rfl rfl UC.out rfl IC.size .head rfl rfl rfl rfl ?_; refine hx_plain rfl ?_)
  refine h_callX rfl rfl rfl rfl rfl (fun w h => x_elemV ⟨vb, 0, none⟩ ⟨t, 0, none⟩ w ((blk_cell (h.perm (Pull.tail .head).perm).blk 0).trans rfl)) rfl rfl ?_
  (refine hx_plain rfl ?_; refine h_move rfl rfl rfl rfl ?_; refine hx_plain rfl ?_)
  refine h_callXA (v := fun b => .agg #[.pointer (some ⟨2, 87, none⟩), .pointer (some ⟨b, 0, none⟩), .int .u64 153]) rfl rfl rfl rfl rfl rfl (fun w => x_valueOfT e w) rfl rfl (fun b => ?_)
  (refine hx_plain rfl ?_)
  refine h_callXS (i := 0) (u := .int .i64 e) rfl rfl rfl rfl rfl rfl (.tail (.tail (.tail .head))) (fun w h hb => x_set ⟨t, 0, none⟩ ⟨b, 0, none⟩ e old w ((blk_cell h.blk 0).trans rfl) ((blk_cell hb 0).trans rfl) (blk_free hb 0)) rfl rfl ?_
  (refine hx_nil ?_; refine hq_then ?_; refine hc_seq ?_; refine hc_lex ?_; refine hx_plain rfl ?_; refine h_assign rfl rfl rfl rfl ?_; refine hx_nil ?_; refine hq_then ?_; refine hc_ret ?_; refine hq_ret_then ?_; refine hq_ret_block ?_; refine hq_ret_then ?_; refine hq_ret_block ?_)
  exact hq_ret1 (.inr rfl) rfl rfl ⟨rfl, rfl⟩ (fun _ h => h.sub (.cons .head .nil))
set_option maxHeartbeats 1000000 in
/-- errors.As at a trouble and the variable t. -/
theorem asT_spec (e : Int) (t : Nat) (old : Value) (E : Addr) (g : Nat) : SpecI Tryd.prog (gl E) g 67 [trb e, ptrT t] [Blk t (.cells #[old] 87 (0, 0))]
    (fun v M => v = .bool true ∧ M = [Blk t (.cells #[.int .i64 e] 87 (0, 0))]) := by
  refine specI_of Tryd.func67 rfl rfl (Nat.le_of_ble_eq_true rfl) (fun w F hI hF => ?_)
  (refine hc_seq ?_; refine hc_lex ?_; refine hx_plain rfl ?_; refine h_assign rfl rfl rfl rfl ?_; refine hx_nil ?_; refine hq_then ?_; refine hc_seq ?_; refine hc_seq ?_; refine hc_lex ?_; refine hx_plain rfl ?_; refine h_move rfl rfl rfl rfl ?_; refine hx_plain rfl ?_)
  refine h_eqIf rfl rfl rfl rfl (eq_nilR _ _) rfl rfl ?_
  (refine hx_nil ?_; refine hq_then ?_; refine hc_condF rfl ?_; refine hc_skip ?_; refine hq_then ?_; refine hc_seq ?_; refine hc_seq ?_; refine hc_lex ?_; refine hx_plain rfl ?_; refine h_move rfl rfl rfl rfl ?_; refine hx_plain rfl ?_)
  refine h_eqIf rfl rfl rfl rfl (eq_nilA _ _) rfl rfl ?_
  (refine hx_nil ?_; refine hq_then ?_; refine hc_condF rfl ?_; refine hc_skip ?_; refine hq_then ?_; refine hc_seq ?_; refine hc_lex ?_; refine hx_plain rfl ?_; refine h_move rfl rfl rfl rfl ?_; refine hx_plain rfl ?_)
  refine h_callXA (v := fun b => valP b) rfl rfl rfl rfl rfl rfl (fun w => x_valueOfP ⟨t, 0, none⟩ w) rfl rfl (fun vb => ?_)
  (refine hx_plain rfl ?_; (refine h_alloc rfl rfl IC.zero rfl rfl rfl (fun _ => ?_)); refine hx_plain rfl ?_; refine h_storeAll rfl rfl rfl rfl rfl rfl IC.size .head rfl rfl rfl (List.all_eq_true.1 rfl) ?_; refine hx_nil ?_; refine hq_then ?_; refine hc_seq ?_; refine hc_lex ?_; refine hx_plain rfl ?_; refine h_loadP rfl rfl UC.out rfl IC.size .head rfl rfl rfl rfl ?_; refine hx_plain rfl ?_)
  refine h_callX rfl rfl rfl rfl rfl (fun w _ => x_type ⟨vb, 0, none⟩ w) rfl rfl ?_
  (refine hx_plain rfl ?_; refine h_assign rfl rfl rfl rfl ?_; refine hx_nil ?_; refine hq_then ?_; refine hc_seq ?_; refine hc_seq ?_; refine hc_lex ?_; refine hx_plain rfl ?_; refine h_move rfl rfl rfl rfl ?_; refine hx_plain rfl ?_)
  refine h_invokeX rfl rfl rfl rfl rfl (m_kind _) (fun w _ => x_kindP w) rfl rfl ?_
  (refine hx_plain rfl ?_; refine h_cmp rfl rfl rfl rfl rfl rfl ?_; refine hx_plain rfl ?_; refine h_move rfl rfl rfl rfl ?_; refine hx_yes rfl rfl rfl ?_; refine h_loadP rfl rfl UC.out rfl IC.size .head rfl rfl rfl rfl ?_; refine hx_yes rfl rfl rfl ?_)
  refine h_callX rfl rfl rfl rfl rfl (fun w h => x_isNil ⟨vb, 0, none⟩ ⟨t, 0, none⟩ w ((blk_cell (h.perm (Pull.tail .head).perm).blk 0).trans rfl)) rfl rfl ?_
  (refine hx_plain rfl ?_; refine h_pickF rfl rfl rfl rfl rfl ?_; refine hx_nil ?_; refine hq_then ?_; refine hc_condF rfl ?_; refine hc_skip ?_; refine hq_then ?_; refine hc_seq ?_; refine hc_lex ?_; refine hx_plain rfl ?_; refine h_move rfl rfl rfl rfl ?_; refine hx_plain rfl ?_)
  refine h_invokeX rfl rfl rfl rfl rfl (m_elem _) (fun w _ => x_elem w) rfl rfl ?_
  (refine hx_plain rfl ?_; refine h_assign rfl rfl rfl rfl ?_; refine hx_nil ?_; refine hq_then ?_; refine hc_seq ?_; refine hc_seq ?_; refine hc_lex ?_; refine hx_plain rfl ?_; refine h_move rfl rfl rfl rfl ?_; refine hx_plain rfl ?_)
  refine h_invokeX rfl rfl rfl rfl rfl (m_kind _) (fun w _ => x_kindT w) rfl rfl ?_
  (refine hx_plain rfl ?_; refine h_cmp rfl rfl rfl rfl rfl rfl ?_; refine hx_plain rfl ?_; refine h_move rfl rfl rfl rfl ?_; refine hx_yes rfl rfl rfl ?_; refine h_move rfl rfl rfl rfl ?_; refine hx_yes rfl rfl rfl ?_)
  refine h_gload hI hF rfl rfl (.tail _ (.head _)) rfl UC.out rfl rfl rfl ?_
  (refine hx_yes rfl rfl rfl ?_)
  refine h_invokeX rfl rfl rfl rfl rfl (m_implements _) (fun w _ => x_implements w) rfl rfl ?_
  (refine hx_yes rfl rfl rfl ?_; refine h_not rfl rfl rfl rfl ?_; refine hx_plain rfl ?_; refine h_pickT rfl rfl rfl rfl rfl ?_; refine hx_nil ?_; refine hq_then ?_; refine hc_condF rfl ?_; refine hc_skip ?_; refine hq_then ?_; refine hc_seq ?_; refine hc_lex ?_; refine hx_plain rfl ?_; refine h_move rfl rfl rfl rfl ?_; refine hx_plain rfl ?_; refine h_move rfl rfl rfl rfl ?_; refine hx_plain rfl ?_; refine h_loadP rfl rfl UC.out rfl IC.size .head rfl rfl rfl rfl ?_; refine hx_plain rfl ?_; refine h_move rfl rfl rfl rfl ?_; refine hx_plain rfl ?_)
  refine h_callI hI hF rfl rfl rfl rfl rfl rfl rfl rfl EC.out (.cons (.tail .head) (.cons (.tail .head) .nil)) (asx_spec e t vb old E g) ?_
  rintro v M ⟨rfl, rfl⟩
  (refine hx_plain rfl ?_; refine h_assign rfl rfl rfl rfl ?_; refine hx_nil ?_; refine hq_then ?_; refine hc_ret ?_)
  exact hq_ret1 (.inr rfl) rfl rfl ⟨rfl, rfl⟩ (fun _ h => h.sub (.cons .head .nil))
end Go.Proofs.YtjnnlfeohbidhaaDoor
