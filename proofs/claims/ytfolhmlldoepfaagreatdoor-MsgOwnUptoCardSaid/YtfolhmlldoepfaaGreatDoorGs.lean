import Derived.Test.YtfolhmlldoepfaaGreatDoorProg
import Derived.WalkKit
import Derived.LaidEql
import Derived.Stop.Asserts
import Derived.RowKitTokens
import Derived.Test.YtfolhmlldoepfaaGreatDoorGb
import Derived.Test.YtfolhmlldoepfaaGreatDoorGt
set_option linter.unusedVariables false
set_option linter.unusedSimpArgs false
namespace Go.Proofs.YtfolhmlldoepfaaGreatDoor
open Go Go.Proofs Go.RowKit Go.Extern.Stop Go.Stop Go.Extern
theorem r_valueOf (t : Addr) (w : World) : (ReflectliteValue.unpack (.iface 188 (.pointer (some t)))).run Tryz.prog w
    = .ok (.agg #[.pointer (some ⟨4, 188, none⟩), .pointer (some ⟨w.heap.size, 0, none⟩), .int .u64 150]) (w.alloc (.cells #[.pointer (some t)] 188)) := by kernel_rfl
theorem r_type (a : Addr) (w : World) : (ReflectliteValue.methodAny (ReflectliteValue.valueError "reflectlite.Value.Type" 0) (fun t _ _ _ => ReflectliteType.toType t) #[.agg #[.pointer (some ⟨4, 188, none⟩), .pointer (some a), .int .u64 150]]).run Tryz.prog w
    = .ok (.iface 209 (.agg #[.pointer (some ⟨4, 188, none⟩)])) w := by kernel_rfl
theorem r_kindP (w : World) : ((ReflectliteType.abiMethod fun t => (fun a : Nat => Value.int IntKind.u8 (a : Int)) <$> Rtype.kind t) #[.pointer (some ⟨4, 188, none⟩)]).run Tryz.prog w = .ok (.int .u8 22) w := by kernel_rfl
theorem r_kindT (w : World) : ((ReflectliteType.abiMethod fun t => (fun a : Nat => Value.int IntKind.u8 (a : Int)) <$> Rtype.kind t) #[.pointer (some ⟨4, 185, none⟩)]).run Tryz.prog w = .ok (.int .u8 25) w := by kernel_rfl
theorem r_elem (w : World) : (ReflectliteType.method ReflectliteType.elem #[.agg #[.pointer (some ⟨4, 188, none⟩)]]).run Tryz.prog w = .ok (.iface 209 (.agg #[.pointer (some ⟨4, 185, none⟩)])) w := by kernel_rfl
theorem r_implements (w : World) : (ReflectliteType.relation "Implements" ReflectliteType.implements_ #[.agg #[.pointer (some ⟨4, 185, none⟩)], .iface 209 (.agg #[.pointer (some ⟨4, 183, none⟩)])]).run Tryz.prog w = .ok (.bool true) w := by kernel_rfl
theorem r_typeOf (v : Value) (w : World) : (ReflectliteType.typeOf #[.iface 185 v]).run Tryz.prog w = .ok (.iface 209 (.agg #[.pointer (some ⟨4, 185, none⟩)])) w := by kernel_rfl
theorem r_assignable (w : World) : (ReflectliteType.relation "AssignableTo" ReflectliteType.assignableTo #[.agg #[.pointer (some ⟨4, 185, none⟩)], .iface 209 (.agg #[.pointer (some ⟨4, 185, none⟩)])]).run Tryz.prog w = .ok (.bool true) w := by kernel_rfl
theorem r_valueOfT (e : Int) (w : World) : (ReflectliteValue.unpack (.iface 185 (.agg #[.int .i64 e]))).run Tryz.prog w
    = .ok (.agg #[.pointer (some ⟨4, 185, none⟩), .pointer (some ⟨w.heap.size, 0, none⟩), .int .u64 153]) (w.alloc (.cells #[.int .i64 e] 185)) := by kernel_rfl
end Go.Proofs.YtfolhmlldoepfaaGreatDoor
namespace Go.Proofs.YtfolhmlldoepfaaGreatDoor
open Go Go.Proofs Go.RowKit Go.Extern.Stop Go.Stop Go.Extern
theorem r_rlm (z : Sem Value) (f : TypeId → Addr → Nat → Nat → Sem Value) (v : Value) :
    ReflectliteValue.method z f #[v] = (do match ← ReflectliteValue.parts v with | none => z | some (t, a, fl) => f t a fl (fl % 32)) := rfl
theorem r_partsP (a : Addr) (w : World) : (ReflectliteValue.parts (.agg #[.pointer (some ⟨4, 188, none⟩), .pointer (some a), .int .u64 150])).run Tryz.prog w = .ok (some (188, a, 150)) w := by kernel_rfl
/-- (Value).IsNil at the Value of a pointer that is not nil. -/
theorem r_isNil (a p : Addr) (W : World) (ha : W.cell? a = some (.pointer (some p))) :
    (ReflectliteValue.method (ReflectliteValue.valueError "reflectlite.Value.IsNil" 0) ReflectliteValue.isNil #[.agg #[.pointer (some ⟨4, 188, none⟩), .pointer (some a), .int .u64 150]]).run Tryz.prog W = .ok (.bool false) W := by
  rw [r_rlm]
  simp only [Sem.run_bind, r_partsP, Result.andThen]
  simp [ReflectliteValue.isNil, loadVar, isAgg, underlying, Tryz.underlying188, ha, Result.andThen]
theorem r_elemOf (w : World) : (Rtype.elem? 188).run Tryz.prog w = .ok (some 185) w := by kernel_rfl
theorem r_mkT (p : Addr) (w : World) : (ReflectliteValue.mk 185 p ReflectliteValue.flagAddr).run Tryz.prog w = .ok (.agg #[.pointer (some ⟨4, 185, none⟩), .pointer (some p), .int .u64 409]) w := by kernel_rfl
/-- (Value).Elem at such a Value: the variable that it points to, addressable. -/
theorem r_elemV (a p : Addr) (W : World) (ha : W.cell? a = some (.pointer (some p))) :
    (ReflectliteValue.method (ReflectliteValue.valueError "reflectlite.Value.Elem" 0) ReflectliteValue.elem #[.agg #[.pointer (some ⟨4, 188, none⟩), .pointer (some a), .int .u64 150]]).run Tryz.prog W
      = .ok (.agg #[.pointer (some ⟨4, 185, none⟩), .pointer (some p), .int .u64 409]) W := by
  rw [r_rlm]
  simp only [Sem.run_bind, r_partsP, Result.andThen]
  simp [ReflectliteValue.elem, loadVar, isAgg, underlying, Tryz.underlying188, ha, Result.andThen, r_elemOf, r_mkT]
end Go.Proofs.YtfolhmlldoepfaaGreatDoor
namespace Go.Proofs.YtfolhmlldoepfaaGreatDoor
open Go Go.Proofs Go.RowKit Go.Extern.Stop Go.Stop Go.Extern
theorem r_rls (v x : Value) : ReflectliteValue.set #[v, x] = (do
    let (some (dst, a, fl), some (src, b, _)) := (← ReflectliteValue.parts v, ← ReflectliteValue.parts x)
      | unsupported (.noEntry "extern/(internal/reflectlite.Value).Set.zeroValue")
    if fl / ReflectliteValue.flagAddr % 2 == 0 then unsupported (.noEntry "extern/(internal/reflectlite.Value).Set.unaddressable")
    let val ← loadVar src b
    if ← Rtype.directlyAssignable dst src then storeVar dst a val
    else if ← Rtype.implements dst src then
      if (← Rtype.kind src) == 20 then
        match val with
        | .nilIface => unsupported (.noEntry "extern/reflectlite: a nil value of one interface type handed on as a value of another")
        | _ => storeVar dst a val
      else storeVar dst a (.iface src val)
    else panicString ("reflectlite.Set: value of type " ++ (← Rtype.spelt src) ++ " is not assignable to type " ++ (← Rtype.spelt dst))
    pure (.tuple #[])) := rfl
theorem r_partsA (a : Addr) (w : World) : (ReflectliteValue.parts (.agg #[.pointer (some ⟨4, 185, none⟩), .pointer (some a), .int .u64 409])).run Tryz.prog w = .ok (some (185, a, 409)) w := by kernel_rfl
theorem r_partsT (a : Addr) (w : World) : (ReflectliteValue.parts (.agg #[.pointer (some ⟨4, 185, none⟩), .pointer (some a), .int .u64 153])).run Tryz.prog w = .ok (some (185, a, 153)) w := by kernel_rfl
theorem r_direct (w : World) : (Rtype.directlyAssignable 185 185).run Tryz.prog w = .ok true w := by kernel_rfl
/-- (Value).Set: the variable at 'ta' gets what the Value's own variable 'b' holds. -/
theorem r_set (ta b : Addr) (e old : Value) (W : World) (hb : (loadVar 185 b).run Tryz.prog W = .ok (.agg #[e]) W) (hs : (storeVar 185 ta (.agg #[e])).run Tryz.prog W = .ok () (W.setCell ta e)) :
    (ReflectliteValue.set #[.agg #[.pointer (some ⟨4, 185, none⟩), .pointer (some ta), .int .u64 409], .agg #[.pointer (some ⟨4, 185, none⟩), .pointer (some b), .int .u64 153]]).run Tryz.prog W
      = .ok (.tuple #[]) (W.setCell ta e) := by
  rw [r_rls]
  simp only [Sem.run_bind, r_partsA, r_partsT, Result.andThen]
  simp [ReflectliteValue.flagAddr, hb, Result.andThen, r_direct, hs]
end Go.Proofs.YtfolhmlldoepfaaGreatDoor
namespace Go.Proofs.YtfolhmlldoepfaaGreatDoor
open Go Go.Proofs Go.RowKit Go.Extern.Stop Go.Stop Go.Extern
theorem r_isAgg (w : World) : (isAgg 185).run Tryz.prog w = .ok true w := by kernel_rfl
theorem r_sizeT (w : World) : (sizeOf 185).run Tryz.prog w = .ok 1 w := by kernel_rfl
theorem r_loadVar (b : Addr) (e : Int) (W : World) (hb : W.cell? b = some (.int .i64 e)) : (loadVar 185 b).run Tryz.prog W = .ok (.agg #[.int .i64 e]) W := by
  unfold loadVar
  simp only [Sem.run_bind, r_isAgg, r_sizeT, Result.andThen, if_pos rfl]
  simp [loadCells, loadCellsFrom, Addr.add, Sem.run_bind, run_load, hb, Result.andThen]
theorem r_storeVar (t : Addr) (e : Int) (old : Value) (W : World) (ht : W.cell? t = some old) (hf : W.frozen? t = false) : (storeVar 185 t (.agg #[.int .i64 e])).run Tryz.prog W = .ok () (W.setCell t (.int .i64 e)) := by
  unfold storeVar
  simp only [Sem.run_bind, r_sizeT, Result.andThen]
  simp [Value.cells, storeCells, Addr.add]
  rw [run_store Tryz.prog W t _ _ (by rfl)]
  simp [ht, hf]
end Go.Proofs.YtfolhmlldoepfaaGreatDoor
namespace Go.Proofs.YtfolhmlldoepfaaGreatDoor
open Go Go.Proofs Go.RowKit Go.Extern.Stop Go.Stop Go.Extern
end Go.Proofs.YtfolhmlldoepfaaGreatDoor
namespace Go.Proofs.YtfolhmlldoepfaaGreatDoor
open Go Go.Proofs Go.RowKit Go.Extern.Stop Go.Stop Go.Extern
set_option maxRecDepth 4000
/-- A trouble, as an error. -/
abbrev trb (e : Int) : Value := .iface 185 (.agg #[.int .i64 e])
abbrev tgt (E : Addr) : Value := .iface 224 (.pointer (some E))
abbrev rty (t : Nat) : Value := .iface 209 (.agg #[.pointer (some ⟨4, t, none⟩)])
/-- What is known of the package variables. -/
abbrev gl (E : Addr) : List (Nat × List Value) := [(1, [tgt E]), (2, [rty 183])]
theorem ext_ok {P : Program} {f : FuncId} {fn : Func} {e : Array Value → Sem Value} {args : Array Value} {v : Value} {w w' : World} (hf : P.funcs[f]? = some fn) (hname : (fn.name == "runtime.NumGoroutine") = false)
    (hb : fn.body.isNone = true) (hn : Extern.findNext fn = none) (he : Extern.find fn = some e) (h : (e args).run P w = .ok v w') : (callFunc f args).run P w = .ok (.value v) w' := by
  rw [run_callFunc_extern hf hname hb hn he, h]
  rfl
theorem k_typeOfS (v : Value) (w : World) : (Extern.ReflectliteType.typeOf #[.iface 224 v]).run Tryz.prog w = .ok (rty 224) w := by kernel_rfl
theorem k_compS (w : World) : ((ReflectliteType.method fun t => do Rtype.noPackHeld "Comparable" t; pure (Value.bool (← typeInfo t).comparable)) #[.agg #[.pointer (some ⟨4, 224, none⟩)]]).run Tryz.prog w = .ok (.bool true) w := by kernel_rfl
theorem m_comp (v : Value) (w : World) : (Go.method (Tryz.prog.types.size + Made.depth) 209 (.agg #[v]) "Comparable").run Tryz.prog w = .ok (204, .agg #[v]) w := by kernel_rfl
theorem m_is (e : Int) (w : World) : (Go.method (Tryz.prog.types.size + Made.depth) 185 (.agg #[.int .i64 e]) "Is").run Tryz.prog w = .ok (198, .agg #[.int .i64 e]) w := by kernel_rfl
theorem x_typeOfS (v : Value) (w : World) : (callFunc 139 #[.iface 224 v]).run Tryz.prog w = .ok (.value (rty 224)) w :=
  ext_ok (e := ReflectliteType.typeOf) Tryz.func139 (by kernel_rfl) (by kernel_rfl) (by kernel_rfl) (by kernel_rfl) (k_typeOfS v w)
theorem x_compS (w : World) : (callFunc 204 #[.agg #[.pointer (some ⟨4, 224, none⟩)]]).run Tryz.prog w = .ok (.value (.bool true)) w :=
  ext_ok (e := ReflectliteType.method fun t => do Rtype.noPackHeld "Comparable" t; pure (Value.bool (← typeInfo t).comparable)) Tryz.func204 (by kernel_rfl) (by kernel_rfl) (by kernel_rfl) (by kernel_rfl) (k_compS w)
theorem ta_is (v : Value) (w : World) : (Instr.typeAssert (.iface 185 v) 183 211 true).run Tryz.prog w = .ok (.tuple #[.iface 185 v, .bool true]) w := run_typeAssert_hasB Tryz.underlying211 (by kernel_rfl) v _ w
theorem eq_same (E : Addr) (w : World) : (binOp .eql 183 (tgt E) (tgt E)).run Tryz.prog w = .ok (.bool true) w := by
  obtain ⟨i, h1, h2⟩ := Option.map_eq_some_iff.1 (show (Tryz.prog.info? 224).map (·.comparable) = some true by kernel_rfl)
  obtain ⟨j, h3, h4⟩ := Option.map_eq_some_iff.1 (show (Tryz.prog.info? 245).map (·.size) = some 1 by kernel_rfl)
  exact run_eql_iface_ptr_same w _ Tryz.underlying183 Tryz.underlying224 h1 h2 h3
theorem eq_types (e : Int) (E : Addr) (w : World) : (binOp .eql 183 (trb e) (tgt E)).run Tryz.prog w = .ok (.bool false) w := run_eql_iface_types _ _ _ _ Tryz.underlying183 (by decide) w
theorem eq_nilR (t : Nat) (v : Value) (w : World) : (binOp .eql 183 (.iface t v) .nilIface).run Tryz.prog w = .ok (.bool false) w := run_eql_iface_nil_right _ _ Tryz.underlying183 w
theorem eq_nilA (t : Nat) (v : Value) (w : World) : (binOp .eql 20 (.iface t v) .nilIface).run Tryz.prog w = .ok (.bool false) w := run_eql_iface_nil_right _ _ Tryz.underlying20 w
/-- (trouble).Is at errTrouble. -/
theorem tis_spec (e : Int) (E : Addr) (g : Nat) : SpecI Tryz.prog (gl E) g 198 [.agg #[.int .i64 e], tgt E] [] (fun v M => v = .bool true ∧ M = []) := by
  refine specI_of Tryz.func198 rfl rfl (Nat.le_of_ble_eq_true rfl) (fun w F hI hF => ?_)
  (refine Zl rfl ?_; (refine h_box rfl rfl rfl rfl rfl rfl (fun _ => ?_)); refine Zn rfl rfl rfl rfl rfl ?_; refine Zw rfl rfl rfl rfl rfl ?_; refine hx_plain rfl ?_)
  refine h_gload hI hF rfl rfl (.head _) rfl UC.out rfl rfl rfl ?_
  (refine hx_plain rfl ?_)
  refine h_eqIf rfl rfl rfl rfl (eq_same E) rfl rfl ?_
  (refine Zn rfl rfl rfl rfl rfl ?_; refine hc_ret ?_)
  exact hq_ret1 (.inr rfl) rfl rfl ⟨rfl, rfl⟩ (fun _ h => h.emp)
/-- errors.is at a trouble and errTrouble. -/
theorem is_spec (e : Int) (E : Addr) (g : Nat) : SpecI Tryz.prog (gl E) g 140 [trb e, tgt E, .bool true] [] (fun v M => v = .bool true ∧ M = []) := by
  refine specI_of Tryz.func140 rfl rfl (Nat.le_of_ble_eq_true rfl) (fun w F hI hF => ?_)
  (refine Zx rfl rfl rfl rfl rfl ?_; refine hc_block ?_)
  refine hc_loop (X := Unit) (fun _ => [(0, trb e), (1, tgt E), (2, .bool true), (6, .bool false)]) (fun _ => []) (fun _ => True) (fun _ => 0) () (.cons rfl (.cons rfl (.cons rfl (.cons rfl .nil)))) trivial (fun _ h => h) ?_
  rintro ⟨⟩ _
  (refine hc_block ?_; refine hc_seq ?_; refine Zw rfl rfl rfl rfl rfl ?_; refine Zm rfl rfl rfl rfl rfl ?_; (iterate 2 (refine hx_yes rfl rfl rfl ?_; refine h_move rfl rfl rfl rfl ?_)); refine hx_yes rfl rfl rfl ?_)
  refine h_eqIf rfl rfl rfl rfl (eq_types e E) rfl rfl ?_
  (refine Zq rfl rfl rfl rfl rfl rfl ?_; refine Zt ?_; refine hc_condF rfl ?_; refine hc_skip ?_; refine hq_then ?_; refine hc_seq ?_; refine Zw rfl rfl rfl rfl rfl ?_; refine hx_plain rfl ?_)
  refine h_typeAssert rfl rfl rfl (ta_is _) rfl rfl ?_
  (refine Zm rfl rfl rfl rfl rfl ?_; (iterate 2 (refine hx_plain rfl ?_; refine h_extract rfl rfl rfl rfl rfl ?_)); refine Za rfl rfl rfl rfl rfl ?_; refine Zn rfl rfl rfl rfl rfl ?_; refine Zw rfl rfl rfl rfl rfl ?_; refine Zm rfl rfl rfl rfl rfl ?_; (iterate 2 (refine hx_yes rfl rfl rfl ?_; refine h_move rfl rfl rfl rfl ?_)); refine hx_yes rfl rfl rfl ?_)
  refine h_invokeI hI hF rfl rfl rfl rfl rfl rfl (m_is e) rfl rfl EC.out .nil (tis_spec e E g) ?_
  rintro v M ⟨rfl, rfl⟩
  (refine Zq rfl rfl rfl rfl rfl rfl ?_; refine Zt ?_; refine hc_condT rfl ?_; refine Zx rfl rfl rfl rfl rfl ?_; refine hc_ret ?_; (iterate 2 (refine hq_ret_then ?_; refine hq_ret_block ?_)))
  exact hq_ret1 (.inr rfl) rfl rfl ⟨rfl, rfl⟩ (fun _ h => h.emp)
theorem isT_spec (e : Int) (E : Addr) (g : Nat) : SpecI Tryz.prog (gl E) g 134 [trb e, tgt E] [] (fun v M => v = .bool true ∧ M = []) := by
  refine specI_of Tryz.func134 rfl rfl (Nat.le_of_ble_eq_true rfl) (fun w F hI hF => ?_)
  (refine Zx rfl rfl rfl rfl rfl ?_; refine hc_seq ?_; refine Zw rfl rfl rfl rfl rfl ?_; refine hx_plain rfl ?_)
  refine h_eqIf rfl rfl rfl rfl (eq_nilR _ _) rfl rfl ?_
  (refine Zm rfl rfl rfl rfl rfl ?_; refine hx_yes rfl rfl rfl ?_; refine h_move rfl rfl rfl rfl ?_; refine hx_yes rfl rfl rfl ?_)
  refine h_eqIf rfl rfl rfl rfl (eq_nilR _ _) rfl rfl ?_
  (refine Zp rfl rfl rfl rfl rfl rfl ?_; refine Zt ?_; refine hc_condF rfl ?_; refine hc_skip ?_; refine hq_then ?_; refine Zw rfl rfl rfl rfl rfl ?_; refine hx_plain rfl ?_)
  refine h_callX rfl rfl rfl rfl rfl (fun w _ => x_typeOfS _ w) rfl rfl ?_
  (refine hx_plain rfl ?_)
  refine h_invokeX rfl rfl rfl rfl rfl (m_comp _) (fun w _ => x_compS w) rfl rfl ?_
  (refine Zn rfl rfl rfl rfl rfl ?_; refine Zw rfl rfl rfl rfl rfl ?_; (iterate 2 (refine Zm rfl rfl rfl rfl rfl ?_)); refine hx_plain rfl ?_)
  refine h_callI hI hF rfl rfl rfl rfl rfl rfl rfl rfl EC.out .nil (is_spec e E g) ?_
  rintro v M ⟨rfl, rfl⟩
  (refine Zn rfl rfl rfl rfl rfl ?_; refine hc_ret ?_)
  exact hq_ret1 (.inr rfl) rfl rfl ⟨rfl, rfl⟩ (fun _ h => h.emp)
end Go.Proofs.YtfolhmlldoepfaaGreatDoor
namespace Go.Proofs.YtfolhmlldoepfaaGreatDoor
open Go Go.Proofs Go.RowKit Go.Extern.Stop Go.Stop Go.Extern
set_option maxRecDepth 4000
theorem x_valueOfP (t : Addr) (w : World) : (callFunc 141 #[.iface 188 (.pointer (some t))]).run Tryz.prog w
    = .ok (.value (.agg #[.pointer (some ⟨4, 188, none⟩), .pointer (some ⟨w.heap.size, 0, none⟩), .int .u64 150])) (w.alloc (.cells #[.pointer (some t)] 188 (0, 0))) :=
  ext_ok (e := fun args => ReflectliteValue.unpack (args.getD 0 (.tuple #[]))) Tryz.func141 (by kernel_rfl) (by kernel_rfl) (by kernel_rfl) (by kernel_rfl) (r_valueOf t w)
theorem x_valueOfT (e : Int) (w : World) : (callFunc 141 #[trb e]).run Tryz.prog w
    = .ok (.value (.agg #[.pointer (some ⟨4, 185, none⟩), .pointer (some ⟨w.heap.size, 0, none⟩), .int .u64 153])) (w.alloc (.cells #[.int .i64 e] 185 (0, 0))) :=
  ext_ok (e := fun args => ReflectliteValue.unpack (args.getD 0 (.tuple #[]))) Tryz.func141 (by kernel_rfl) (by kernel_rfl) (by kernel_rfl) (by kernel_rfl) (r_valueOfT e w)
theorem x_type (a : Addr) (w : World) : (callFunc 142 #[.agg #[.pointer (some ⟨4, 188, none⟩), .pointer (some a), .int .u64 150]]).run Tryz.prog w = .ok (.value (rty 188)) w :=
  ext_ok (e := ReflectliteValue.methodAny (ReflectliteValue.valueError "reflectlite.Value.Type" 0) (fun t _ _ _ => ReflectliteType.toType t)) Tryz.func142 (by kernel_rfl) (by kernel_rfl) (by kernel_rfl) (by kernel_rfl) (r_type a w)
theorem m_kind (h : Value) (w : World) : (Go.method (Tryz.prog.types.size + Made.depth) 209 (.agg #[h]) "Kind").run Tryz.prog w = .ok (165, h) w := by kernel_rfl
theorem m_elem (h : Value) (w : World) : (Go.method (Tryz.prog.types.size + Made.depth) 209 (.agg #[h]) "Elem").run Tryz.prog w = .ok (205, .agg #[h]) w := by kernel_rfl
theorem m_implements (h : Value) (w : World) : (Go.method (Tryz.prog.types.size + Made.depth) 209 (.agg #[h]) "Implements").run Tryz.prog w = .ok (206, .agg #[h]) w := by kernel_rfl
theorem m_assignable (h : Value) (w : World) : (Go.method (Tryz.prog.types.size + Made.depth) 209 (.agg #[h]) "AssignableTo").run Tryz.prog w = .ok (203, .agg #[h]) w := by kernel_rfl
theorem x_kindP (w : World) : (callFunc 165 #[.pointer (some ⟨4, 188, none⟩)]).run Tryz.prog w = .ok (.value (.int .u8 22)) w :=
  ext_ok (e := ReflectliteType.abiMethod fun t => (fun a : Nat => Value.int IntKind.u8 (a : Int)) <$> Rtype.kind t) Tryz.func165 (by kernel_rfl) (by kernel_rfl) (by kernel_rfl) (by kernel_rfl) (r_kindP w)
theorem x_kindT (w : World) : (callFunc 165 #[.pointer (some ⟨4, 185, none⟩)]).run Tryz.prog w = .ok (.value (.int .u8 25)) w :=
  ext_ok (e := ReflectliteType.abiMethod fun t => (fun a : Nat => Value.int IntKind.u8 (a : Int)) <$> Rtype.kind t) Tryz.func165 (by kernel_rfl) (by kernel_rfl) (by kernel_rfl) (by kernel_rfl) (r_kindT w)
theorem x_elem (w : World) : (callFunc 205 #[.agg #[.pointer (some ⟨4, 188, none⟩)]]).run Tryz.prog w = .ok (.value (rty 185)) w :=
  ext_ok (e := ReflectliteType.method ReflectliteType.elem) Tryz.func205 (by kernel_rfl) (by kernel_rfl) (by kernel_rfl) (by kernel_rfl) (r_elem w)
theorem x_implements (w : World) : (callFunc 206 #[.agg #[.pointer (some ⟨4, 185, none⟩)], rty 183]).run Tryz.prog w = .ok (.value (.bool true)) w :=
  ext_ok (e := ReflectliteType.relation "Implements" ReflectliteType.implements_) Tryz.func206 (by kernel_rfl) (by kernel_rfl) (by kernel_rfl) (by kernel_rfl) (r_implements w)
theorem x_typeOfT (e : Int) (w : World) : (callFunc 139 #[trb e]).run Tryz.prog w = .ok (.value (rty 185)) w :=
  ext_ok (e := ReflectliteType.typeOf) Tryz.func139 (by kernel_rfl) (by kernel_rfl) (by kernel_rfl) (by kernel_rfl) (r_typeOf _ w)
theorem x_assignable (w : World) : (callFunc 203 #[.agg #[.pointer (some ⟨4, 185, none⟩)], rty 185]).run Tryz.prog w = .ok (.value (.bool true)) w :=
  ext_ok (e := ReflectliteType.relation "AssignableTo" ReflectliteType.assignableTo) Tryz.func203 (by kernel_rfl) (by kernel_rfl) (by kernel_rfl) (by kernel_rfl) (r_assignable w)
theorem x_isNil (a p : Addr) (W : World) (ha : W.cell? a = some (.pointer (some p))) : (callFunc 143 #[.agg #[.pointer (some ⟨4, 188, none⟩), .pointer (some a), .int .u64 150]]).run Tryz.prog W = .ok (.value (.bool false)) W :=
  ext_ok (e := ReflectliteValue.method (ReflectliteValue.valueError "reflectlite.Value.IsNil" 0) ReflectliteValue.isNil) Tryz.func143 (by kernel_rfl) (by kernel_rfl) (by kernel_rfl) (by kernel_rfl) (r_isNil a p W ha)
theorem x_elemV (a p : Addr) (W : World) (ha : W.cell? a = some (.pointer (some p))) : (callFunc 147 #[.agg #[.pointer (some ⟨4, 188, none⟩), .pointer (some a), .int .u64 150]]).run Tryz.prog W = .ok (.value (.agg #[.pointer (some ⟨4, 185, none⟩), .pointer (some p), .int .u64 409])) W :=
  ext_ok (e := ReflectliteValue.method (ReflectliteValue.valueError "reflectlite.Value.Elem" 0) ReflectliteValue.elem) Tryz.func147 (by kernel_rfl) (by kernel_rfl) (by kernel_rfl) (by kernel_rfl) (r_elemV a p W ha)
theorem x_set (ta b : Addr) (e : Int) (old : Value) (W : World) (hb : W.cell? b = some (.int .i64 e)) (ht : W.cell? ta = some old) (hf : W.frozen? ta = false) :
    (callFunc 148 #[.agg #[.pointer (some ⟨4, 185, none⟩), .pointer (some ta), .int .u64 409], .agg #[.pointer (some ⟨4, 185, none⟩), .pointer (some b), .int .u64 153]]).run Tryz.prog W = .ok (.value (.tuple #[])) (W.setCell ta (.int .i64 e)) :=
  ext_ok (e := ReflectliteValue.set) Tryz.func148 (by kernel_rfl) (by kernel_rfl) (by kernel_rfl) (by kernel_rfl) (r_set ta b (.int .i64 e) old W (r_loadVar b e W hb) (r_storeVar ta e old W ht hf))
/-- The Value of a pointer to a trouble, kept at vb. -/
abbrev valP (vb : Nat) : Value := .agg #[.pointer (some ⟨4, 188, none⟩), .pointer (some ⟨vb, 0, none⟩), .int .u64 150]
abbrev ptrT (t : Nat) : Value := .iface 188 (.pointer (some ⟨t, 0, none⟩))
set_option maxHeartbeats 1000000 in
/-- errors.as at a trouble and the variable t. -/
theorem asx_spec (e : Int) (t vb : Nat) (old : Value) (E : Addr) (g : Nat) : SpecI Tryz.prog (gl E) g 144 [trb e, ptrT t, valP vb, rty 185] [Blk vb (.cells #[.pointer (some ⟨t, 0, none⟩)] 188 (0, 0)), Blk t (.cells #[old] 185 (0, 0))]
    (fun v M => v = .bool true ∧ M = [Blk t (.cells #[.int .i64 e] 185 (0, 0))]) := by
  refine specI_of Tryz.func144 rfl rfl (Nat.le_of_ble_eq_true rfl) (fun w F hI hF => ?_)
  (refine Zl rfl ?_; (refine h_box rfl rfl rfl rfl rfl rfl (fun _ => ?_)); refine Zn rfl rfl rfl rfl rfl ?_; refine hc_block ?_)
  rename_i b6
  refine hc_loop (X := Unit) (fun _ => [(0, trb e), (1, ptrT t), (3, rty 185), (6, .pointer (some ⟨b6, 0, none⟩)), (8, .bool false)]) (fun _ => [Blk b6 (.cells #[.pointer (some ⟨4, 188, none⟩), .pointer (some ⟨vb, 0, none⟩), .int .u64 150] 200 (0, 0)), Blk vb (.cells #[.pointer (some ⟨t, 0, none⟩)] 188 (0, 0)), Blk t (.cells #[old] 185 (0, 0))]) (fun _ => True) (fun _ => 0) () (.cons rfl (.cons rfl (.cons rfl (.cons rfl (.cons rfl .nil))))) trivial (fun _ h => h) ?_
  rintro ⟨⟩ _
  (refine hc_block ?_; refine hc_seq ?_; refine Zw rfl rfl rfl rfl rfl ?_; refine hx_plain rfl ?_)
  refine h_callX rfl rfl rfl rfl rfl (fun w _ => x_typeOfT e w) rfl rfl ?_
  (refine Zm rfl rfl rfl rfl rfl ?_; refine hx_plain rfl ?_)
  refine h_invokeX rfl rfl rfl rfl rfl (m_assignable _) (fun w _ => x_assignable w) rfl rfl ?_
  (refine Zt ?_; refine hc_condT rfl ?_; refine Zl rfl ?_; refine h_loadP rfl rfl UC.out rfl IC.size .head rfl rfl rfl rfl ?_; refine hx_plain rfl ?_)
  refine h_callX rfl rfl rfl rfl rfl (fun w h => x_elemV ⟨vb, 0, none⟩ ⟨t, 0, none⟩ w ((blk_cell (h.perm (Pull.tail .head).perm).blk 0).trans rfl)) rfl rfl ?_
  (refine Zm rfl rfl rfl rfl rfl ?_; refine hx_plain rfl ?_)
  refine h_callXA (v := fun b => .agg #[.pointer (some ⟨4, 185, none⟩), .pointer (some ⟨b, 0, none⟩), .int .u64 153]) rfl rfl rfl rfl rfl rfl (fun w => x_valueOfT e w) rfl rfl (fun b => ?_)
  (refine hx_plain rfl ?_)
  refine h_callXS (i := 0) (u := .int .i64 e) rfl rfl rfl rfl rfl rfl (.tail (.tail (.tail .head))) (fun w h hb => x_set ⟨t, 0, none⟩ ⟨b, 0, none⟩ e old w ((blk_cell h.blk 0).trans rfl) ((blk_cell hb 0).trans rfl) (blk_free hb 0)) rfl rfl ?_
  (refine Zt ?_; refine Zx rfl rfl rfl rfl rfl ?_; refine hc_ret ?_; (iterate 2 (refine hq_ret_then ?_; refine hq_ret_block ?_)))
  exact hq_ret1 (.inr rfl) rfl rfl ⟨rfl, rfl⟩ (fun _ h => h.sub (.cons .head .nil))
set_option maxHeartbeats 1000000 in
/-- errors.As at a trouble and the variable t. -/
theorem asT_spec (e : Int) (t : Nat) (old : Value) (E : Addr) (g : Nat) : SpecI Tryz.prog (gl E) g 135 [trb e, ptrT t] [Blk t (.cells #[old] 185 (0, 0))]
    (fun v M => v = .bool true ∧ M = [Blk t (.cells #[.int .i64 e] 185 (0, 0))]) := by
  refine specI_of Tryz.func135 rfl rfl (Nat.le_of_ble_eq_true rfl) (fun w F hI hF => ?_)
  (refine Zx rfl rfl rfl rfl rfl ?_; refine hc_seq ?_; refine Zw rfl rfl rfl rfl rfl ?_; refine hx_plain rfl ?_)
  refine h_eqIf rfl rfl rfl rfl (eq_nilR _ _) rfl rfl ?_
  (refine Zt ?_; refine hc_condF rfl ?_; refine hc_skip ?_; refine hq_then ?_; refine hc_seq ?_; refine Zw rfl rfl rfl rfl rfl ?_; refine hx_plain rfl ?_)
  refine h_eqIf rfl rfl rfl rfl (eq_nilA _ _) rfl rfl ?_
  (refine Zt ?_; refine hc_condF rfl ?_; refine hc_skip ?_; refine hq_then ?_; refine Zw rfl rfl rfl rfl rfl ?_; refine hx_plain rfl ?_)
  refine h_callXA (v := fun b => valP b) rfl rfl rfl rfl rfl rfl (fun w => x_valueOfP ⟨t, 0, none⟩ w) rfl rfl (fun vb => ?_)
  (refine hx_plain rfl ?_; (refine h_alloc rfl rfl IC.zero rfl rfl rfl (fun _ => ?_)); refine hx_plain rfl ?_; refine h_storeAll rfl rfl rfl rfl rfl rfl IC.size .head rfl rfl rfl (List.all_eq_true.1 rfl) ?_; refine Zt ?_; refine Zl rfl ?_; refine h_loadP rfl rfl UC.out rfl IC.size .head rfl rfl rfl rfl ?_; refine hx_plain rfl ?_)
  refine h_callX rfl rfl rfl rfl rfl (fun w _ => x_type ⟨vb, 0, none⟩ w) rfl rfl ?_
  (refine Zn rfl rfl rfl rfl rfl ?_; refine hc_seq ?_; refine Zw rfl rfl rfl rfl rfl ?_; refine hx_plain rfl ?_)
  refine h_invokeX rfl rfl rfl rfl rfl (m_kind _) (fun w _ => x_kindP w) rfl rfl ?_
  (refine Zc rfl rfl rfl rfl rfl rfl rfl ?_; refine Zm rfl rfl rfl rfl rfl ?_; refine hx_yes rfl rfl rfl ?_; refine h_loadP rfl rfl UC.out rfl IC.size .head rfl rfl rfl rfl ?_; refine hx_yes rfl rfl rfl ?_)
  refine h_callX rfl rfl rfl rfl rfl (fun w h => x_isNil ⟨vb, 0, none⟩ ⟨t, 0, none⟩ w ((blk_cell (h.perm (Pull.tail .head).perm).blk 0).trans rfl)) rfl rfl ?_
  (refine Zp rfl rfl rfl rfl rfl rfl ?_; refine Zt ?_; refine hc_condF rfl ?_; refine hc_skip ?_; refine hq_then ?_; refine Zw rfl rfl rfl rfl rfl ?_; refine hx_plain rfl ?_)
  refine h_invokeX rfl rfl rfl rfl rfl (m_elem _) (fun w _ => x_elem w) rfl rfl ?_
  (refine Zn rfl rfl rfl rfl rfl ?_; refine hc_seq ?_; refine Zw rfl rfl rfl rfl rfl ?_; refine hx_plain rfl ?_)
  refine h_invokeX rfl rfl rfl rfl rfl (m_kind _) (fun w _ => x_kindT w) rfl rfl ?_
  (refine Zc rfl rfl rfl rfl rfl rfl rfl ?_; refine Zm rfl rfl rfl rfl rfl ?_; refine hx_yes rfl rfl rfl ?_; refine h_move rfl rfl rfl rfl ?_; refine hx_yes rfl rfl rfl ?_)
  refine h_gload hI hF rfl rfl (.tail _ (.head _)) rfl UC.out rfl rfl rfl ?_
  (refine hx_yes rfl rfl rfl ?_)
  refine h_invokeX rfl rfl rfl rfl rfl (m_implements _) (fun w _ => x_implements w) rfl rfl ?_
  (refine hx_yes rfl rfl rfl ?_; refine h_not rfl rfl rfl rfl ?_; refine Zq rfl rfl rfl rfl rfl rfl ?_; refine Zt ?_; refine hc_condF rfl ?_; refine hc_skip ?_; refine hq_then ?_; refine Zw rfl rfl rfl rfl rfl ?_; refine Zm rfl rfl rfl rfl rfl ?_; refine hx_plain rfl ?_; refine h_loadP rfl rfl UC.out rfl IC.size .head rfl rfl rfl rfl ?_; refine Zm rfl rfl rfl rfl rfl ?_; refine hx_plain rfl ?_)
  refine h_callI hI hF rfl rfl rfl rfl rfl rfl rfl rfl EC.out (.cons (.tail .head) (.cons (.tail .head) .nil)) (asx_spec e t vb old E g) ?_
  rintro v M ⟨rfl, rfl⟩
  (refine Zn rfl rfl rfl rfl rfl ?_; refine hc_ret ?_)
  exact hq_ret1 (.inr rfl) rfl rfl ⟨rfl, rfl⟩ (fun _ h => h.sub (.cons .head .nil))
end Go.Proofs.YtfolhmlldoepfaaGreatDoor
