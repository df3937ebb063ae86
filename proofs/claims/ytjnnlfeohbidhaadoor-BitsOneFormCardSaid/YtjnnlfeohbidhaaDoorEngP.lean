import Derived.Test.YtjnnlfeohbidhaaDoorEngO
namespace Go.Proofs.YtjnnlfeohbidhaaDoor
open Go

/-! ### Calls that lean on what the world holds besides the pieces -/
theorem St.wide {w w' : World} {M : List Asn} (F : Nat → Prop) (h : St w nowhere M w') : St w F M w' :=
  let ⟨G, g1, g2, g3⟩ := h
  ⟨G, g1, ⟨g2.os, g2.tape, g2.output, g2.size, fun k hk _ => g2.blk k hk id⟩, fun b hb => .inr ((g3 b hb).resolve_left id)⟩
section
variable {P : Program} {n : Nat} {ds : List Deferred} {ops : Array Oper} {ev wk : Nat → Bool} {K : Env → (World → Prop) → Prop} {r : List Oper} {o : Oper} {k : Nat} {e : Env} {w0 : World} {F0 : Nat → Prop} {L : List Asn}
theorem h_callW {c : Call} {f : FuncId} {fo : Operand} {vs : List Value} {cap : Array Value} {post : Value → List Asn → Prop} (hev : ev k = true) (hwk : wk k = false) (ho : o.op = .call c) (hc : c.callee = .value fo) (hf : e.op fo = some (.func (.func f) #[] cap)) (hvs : e.ops c.args.toList = some vs)
    {dd : Nat} (hdst : o.dst = some dd) (hd : okD n (some dd) = true) (he : Enters P f)
    (hs : ∀ w, St w0 F0 L w → Calls P f (vs ++ cap.toList).toArray w (fun en w' => ∃ v M, en = .returned v ∧ post v M ∧ St w nowhere M w'))
    (h : ∀ v M, post v M → HX P n ds ops ev wk K r (k + 1) ((dd, v) :: e) (St w0 F0 (M ++ L))) : HX1 P n ds ops ev wk K o r k e (St w0 F0 L) :=
  hx1_event hev (fun a w ha hC => by
    unfold Oper.wp
    rw [run_call he hc (ha.eval hf) (ha.evals hvs) ho]
    have hcall := hs w hC
    have e1 : (vs ++ cap.toList).toArray = vs.toArray ++ cap := by simp
    rw [e1] at hcall
    refine hcall.mono ?_
    rintro en w' ⟨v, M, rfl, hp, hSt⟩
    refine ⟨St w0 F0 (M ++ L), _, ?_, (fun h => by rw [hwk] at h; cases h), (by rw [hdst]; exact ha.put hd v), h v M hp⟩
    exact St.call (pre := []) hC (fun F1 _ => hSt.wide F1))
end
end Go.Proofs.YtjnnlfeohbidhaaDoor
