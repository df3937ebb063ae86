import Derived.Test.YtbfmmgbfliebhaaN2
namespace Go.Proofs.Ytbfmmgbfliebhaa
open Go Go.Proofs
set_option maxRecDepth 4000

/-! ### The program's net in memory -/
def QF.ent (q : QF) : Int × Value := (q.f.no, .agg #[.int .i64 q.f.to, q.sl.v])
def QF.row (q : QF) : Asn := RowV byteE 5 q.sl.v q.f.data
abbrev iK : KeyOf Int := intKey .i64
abbrev netB (p g : Nat) (given : Int) : Asn := Blk p (.cells #[.map (some g), .int .i64 given] 76 (0, 0))
abbrev netM (g : Nat) (ks : List QF) : Asn := MapA iK g (ks.map QF.ent)
abbrev netR (ks : List QF) : Asn := All (ks.map QF.row)
def NetO (p : Nat) (s : NS) : Asn := Ex fun x : Nat × List QF => All [Fact (x.2.map (·.f) = s.l), netB p x.1 s.given, netM x.1 x.2, netR x.2]
theorem NetO_open {p : Nat} {s : NS} (w w0 : World) (F0 : Nat → Prop) (R : List Asn) (h : St w0 F0 (NetO p s :: R) w) : ∃ x : Nat × List QF, x.2.map (·.f) = s.l ∧ St w0 F0 ([netB p x.1 s.given, netM x.1 x.2, netR x.2] ++ R) w := by
  obtain ⟨x, hx⟩ := St.ex.1 h
  have h2 := St.all.1 hx
  obtain ⟨hl, h3⟩ := St.fact.1 h2
  exact ⟨x, hl, h3⟩
theorem NetO_shut {p g : Nat} {s : NS} {ks : List QF} {w w0 : World} {F0 : Nat → Prop} {R : List Asn} (hl : ks.map (·.f) = s.l) (h : St w0 F0 (netB p g s.given :: netM g ks :: netR ks :: R) w) : St w0 F0 (NetO p s :: R) w :=
  St.ex.2 ⟨(g, ks), St.all.2 (St.fact.2 ⟨hl, h⟩)⟩
theorem ent_keys (ks : List QF) : (ks.map QF.ent).map (·.1) = ks.map (·.f.no) := by
  rw [List.map_map]
  rfl
theorem nos_of {ks : List QF} {l : List Fl} (h : ks.map (·.f) = l) : ks.map (·.f.no) = l.map (·.no) := by
  rw [← h, List.map_map]
  rfl
theorem nos_nodup {s : NS} (h : s.Ok) : (s.l.map (·.no)).Nodup := h.rise.imp (fun h e => by omega)
/-- Where a number stands, or that it stands nowhere. -/
theorem net_find {ks : List QF} {s : NS} (hl : ks.map (·.f) = s.l) (h : s.Ok) (no : Int) :
    (s.find no = none ∧ no ∉ (ks.map QF.ent).map (·.1) ∧ mget iK (ks.map QF.ent) no = none) ∨ ∃ (k : Nat) (q : QF), ks[k]? = some q ∧ q.f.no = no ∧ s.find no = some q.f ∧ s.l[k]? = some q.f ∧ mget iK (ks.map QF.ent) no = some (.agg #[.int .i64 q.f.to, q.sl.v]) := by
  cases hf : s.find no with
  | none =>
    have : no ∉ (ks.map QF.ent).map (·.1) := by
      rw [ent_keys, nos_of hl]
      intro hm
      obtain ⟨f, hf', e⟩ := List.mem_map.1 hm
      exact NS.find_none hf f hf' e
    exact .inl ⟨rfl, this, mget_none' this⟩
  | some f =>
    have h1 := NS.idx_get hf
    have h2 := h1
    rw [← hl, List.getElem?_map] at h2
    cases hk : ks[s.idx no]? with
    | none => rw [hk] at h2; cases h2
    | some q =>
      rw [hk] at h2
      have e : q.f = f := Option.some.inj h2
      have hno := (NS.find_some hf).2
      refine .inr ⟨s.idx no, q, hk, by rw [e]; exact hno, by rw [e], by rw [e]; exact h1, ?_⟩
      refine mget_at (k := s.idx no) ?_ ?_
      · rw [ent_keys, nos_of hl]
        exact nos_nodup h
      · rw [List.getElem?_map, hk]
        show some (q.f.no, _) = _
        rw [e, hno]
/-- find. -/
theorem find_spec (p g : Nat) (given no : Int) (ks : List QF) (v : Value) (er : Int) (hv : (mget iK (ks.map QF.ent) no = none ∧ v = .agg #[.int .i64 0, .slice none 0 0] ∧ er = 201) ∨ ∃ (a : Int) (s : SlV), mget iK (ks.map QF.ent) no = some v ∧ v = .agg #[.int .i64 a, s.v] ∧ er = 0) :
    Spec Try.prog 31 [.pointer (some ⟨p, 0, none⟩), .int .i64 no] [netB p g given, netM g ks] (fun u M => u = .tuple #[v, .int .i64 er] ∧ M = [netB p g given, netM g ks]) := by
  refine spec_of Try.func31 rfl rfl (Nat.le_of_ble_eq_true rfl) (fun w F => ?_)
  rcases hv with ⟨hm, rfl, rfl⟩ | ⟨a, s, hm, rfl, rfl⟩
  · (refine hc_seq ?_; refine hc_lex ?_; refine hx_plain rfl ?_; (refine h_alloc rfl rfl IC.zero rfl rfl rfl (fun _ => ?_)); refine hx_plain rfl ?_; refine h_assign rfl rfl rfl rfl ?_; refine hx_nil ?_; refine hq_then ?_; refine hc_seq ?_; refine hc_lex ?_; refine hx_plain rfl ?_; refine h_move rfl rfl rfl rfl ?_; refine hx_plain rfl ?_; refine h_nilCheck rfl rfl rfl rfl ?_; refine hx_plain rfl ?_; refine h_fieldAddr0 rfl rfl FC.out rfl rfl ?_; refine hx_plain rfl ?_; refine h_load rfl rfl UC.out rfl (.tail .head) rfl rfl rfl ?_; refine hx_plain rfl ?_; refine h_move rfl rfl rfl rfl ?_; refine hx_plain rfl ?_; refine h_lookupN rfl (.tail (.tail .head)) rfl UC.out UC.out IC.zero rfl (by with_reducible assumption) rfl rfl ?_; refine hx_plain rfl ?_; refine h_move rfl rfl rfl rfl ?_; refine hx_plain rfl ?_; refine h_extract rfl rfl rfl rfl rfl ?_; refine hx_plain rfl ?_; refine h_extract rfl rfl rfl rfl rfl ?_; refine hx_plain rfl ?_; (refine h_alloc rfl rfl IC.zero rfl rfl rfl (fun _ => ?_)); refine hx_plain rfl ?_; refine h_store rfl rfl rfl rfl rfl rfl IC.size .head rfl rfl (Nat.le_of_ble_eq_true rfl) (List.all_eq_true.1 rfl) ?_; refine hx_plain rfl ?_; refine h_assign rfl rfl rfl rfl ?_; refine hx_nil ?_; refine hq_then ?_; refine hc_seq ?_; refine hc_seq ?_; refine hc_lex ?_; refine hx_plain rfl ?_; refine h_move rfl rfl rfl rfl ?_; refine hx_plain rfl ?_; refine h_not rfl rfl rfl rfl ?_; refine hx_nil ?_; refine hq_then ?_; refine hc_condT rfl ?_; refine hc_seq ?_; refine hc_lex ?_; refine hx_plain rfl ?_; refine h_build rfl inferInstance rfl rfl rfl rfl ?_; refine hx_plain rfl ?_; refine h_store rfl rfl rfl rfl rfl rfl IC.size (.tail .head) rfl rfl (Nat.le_of_ble_eq_true rfl) (List.all_eq_true.1 rfl) ?_; refine hx_plain rfl ?_; refine h_assign rfl rfl rfl rfl ?_; refine hx_nil ?_; refine hq_then ?_; refine hc_ret ?_; refine hq_ret_then ?_)
    refine hq_R2 (.inr rfl) rfl (rv_cell rfl .head UC.out rfl IC.size) (rv_tmp rfl) ⟨rfl, rfl⟩ (fun _ h => ?_)
    (refine St.sub ?_ h; (with_reducible refine .cons (.tail (.tail .head)) ?_); (with_reducible refine .cons (.tail (.tail .head)) ?_); exact .nil)
  · (refine hc_seq ?_; refine hc_lex ?_; refine hx_plain rfl ?_; (refine h_alloc rfl rfl IC.zero rfl rfl rfl (fun _ => ?_)); refine hx_plain rfl ?_; refine h_assign rfl rfl rfl rfl ?_; refine hx_nil ?_; refine hq_then ?_; refine hc_seq ?_; refine hc_lex ?_; refine hx_plain rfl ?_; refine h_move rfl rfl rfl rfl ?_; refine hx_plain rfl ?_; refine h_nilCheck rfl rfl rfl rfl ?_; refine hx_plain rfl ?_; refine h_fieldAddr0 rfl rfl FC.out rfl rfl ?_; refine hx_plain rfl ?_; refine h_load rfl rfl UC.out rfl (.tail .head) rfl rfl rfl ?_; refine hx_plain rfl ?_; refine h_move rfl rfl rfl rfl ?_; refine hx_plain rfl ?_; refine h_lookupS rfl (.tail (.tail .head)) rfl UC.out UC.out IC.zero rfl (by with_reducible assumption) rfl rfl ?_; refine hx_plain rfl ?_; refine h_move rfl rfl rfl rfl ?_; refine hx_plain rfl ?_; refine h_extract rfl rfl rfl rfl rfl ?_; refine hx_plain rfl ?_; refine h_extract rfl rfl rfl rfl rfl ?_; refine hx_plain rfl ?_; (refine h_alloc rfl rfl IC.zero rfl rfl rfl (fun _ => ?_)); refine hx_plain rfl ?_; refine h_store rfl rfl rfl rfl rfl rfl IC.size .head rfl rfl (Nat.le_of_ble_eq_true rfl) (List.all_eq_true.1 rfl) ?_; refine hx_plain rfl ?_; refine h_assign rfl rfl rfl rfl ?_; refine hx_nil ?_; refine hq_then ?_; refine hc_seq ?_; refine hc_seq ?_; refine hc_lex ?_; refine hx_plain rfl ?_; refine h_move rfl rfl rfl rfl ?_; refine hx_plain rfl ?_; refine h_not rfl rfl rfl rfl ?_; refine hx_nil ?_; refine hq_then ?_; refine hc_condF rfl ?_; refine hc_skip ?_; refine hq_then ?_; refine hc_seq ?_; refine hc_lex ?_; refine hx_plain rfl ?_; refine h_load2 rfl rfl UC.out rfl IC.size .head rfl rfl rfl rfl ?_; refine hx_plain rfl ?_; refine h_store rfl rfl rfl rfl rfl rfl IC.size (.tail .head) rfl rfl (Nat.le_of_ble_eq_true rfl) (List.all_eq_true.1 rfl) ?_; refine hx_plain rfl ?_; refine h_assign rfl rfl rfl rfl ?_; refine hx_nil ?_; refine hq_then ?_; refine hc_ret ?_)
    refine hq_R2 (.inr rfl) rfl (rv_cell rfl .head UC.out rfl IC.size) (rv_tmp rfl) ⟨rfl, rfl⟩ (fun _ h => ?_)
    (refine St.sub ?_ h; (with_reducible refine .cons (.tail (.tail .head)) ?_); (with_reducible refine .cons (.tail (.tail .head)) ?_); exact .nil)
end Go.Proofs.Ytbfmmgbfliebhaa
