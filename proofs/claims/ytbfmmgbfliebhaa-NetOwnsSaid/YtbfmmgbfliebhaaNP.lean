import Derived.Test.YtbfmmgbfliebhaaEngR
namespace Go.Proofs.Ytbfmmgbfliebhaa
open Go Go.Proofs

/-! ### The nets as plain lists -/
/-- A datagram under way. -/
structure Fl where
  no : Int
  to : Int
  data : List Int
theorem Fl.ext' {a b : Fl} (h1 : a.no = b.no) (h2 : a.to = b.to) (h3 : a.data = b.data) : a = b := by
  cases a; cases b; cases h1; cases h2; cases h3; rfl
instance : DecidableEq Fl := fun a b =>
  if h : a.no = b.no ∧ a.to = b.to ∧ a.data = b.data then .isTrue (Fl.ext' h.1 h.2.1 h.2.2) else .isFalse (fun e => h (by subst e; exact ⟨rfl, rfl, rfl⟩))
structure NS where
  l : List Fl
  given : Int
def NS.new : NS := ⟨[], 0⟩
def NS.find (s : NS) (no : Int) : Option Fl := s.l.find? (fun f => decide (f.no = no))
def NS.add (s : NS) (to : Int) (d : List Int) : NS := ⟨s.l ++ [⟨s.given + 1, to, d⟩], s.given + 1⟩
def NS.send (s : NS) (to : Int) (d : List Int) : NS := if s.l.length < 4096 then s.add to d else s
def NS.sent (s : NS) : Int := if s.l.length < 4096 then s.given + 1 else 0
def NS.del (s : NS) (no : Int) : NS := ⟨s.l.filter (fun f => !decide (f.no = no)), s.given⟩
def NS.upd (s : NS) (no : Int) (d : List Int) : NS := ⟨s.l.map (fun f => if f.no = no then ⟨f.no, f.to, d⟩ else f), s.given⟩
/-- Numbers rise; none is above the last one. -/
structure NS.Ok (s : NS) : Prop where
  rise : (s.l.map (·.no)).Pairwise (· < ·)
  top : ∀ f ∈ s.l, 1 ≤ f.no ∧ f.no ≤ s.given
  few : s.l.length ≤ 4096
  g0 : 0 ≤ s.given
theorem NS.new_ok : NS.new.Ok := ⟨List.Pairwise.nil, (fun f h => absurd h List.not_mem_nil), Nat.zero_le _, Int.le_refl _⟩
theorem NS.send_ok {s : NS} (h : s.Ok) (to : Int) (d : List Int) : (s.send to d).Ok := by
  unfold NS.send
  split
  case isFalse => exact h
  case isTrue hl =>
    have hg := h.g0
    refine ⟨?_, ?_, ?_, by show 0 ≤ s.given + 1; omega⟩
    · show ((s.l ++ [(⟨s.given + 1, to, d⟩ : Fl)]).map (·.no)).Pairwise (· < ·)
      rw [List.map_append (f := fun f : Fl => f.no), List.pairwise_append]
      refine ⟨h.rise, by simp, ?_⟩
      intro a ha b hb
      obtain ⟨f, hf, rfl⟩ := List.mem_map.1 ha
      have := (h.top f hf).2
      simp at hb
      omega
    · intro f hf
      rcases List.mem_append.1 hf with hf | hf
      · have := h.top f hf
        show 1 ≤ f.no ∧ f.no ≤ s.given + 1
        omega
      · simp at hf
        subst hf
        show 1 ≤ s.given + 1 ∧ s.given + 1 ≤ s.given + 1
        omega
    · show (s.l ++ [_]).length ≤ 4096
      rw [List.length_append]
      show s.l.length + 1 ≤ 4096
      omega
theorem NS.del_ok {s : NS} (h : s.Ok) (no : Int) : (s.del no).Ok :=
  ⟨h.rise.sublist (List.filter_sublist.map _), fun f hf => h.top f ((List.mem_filter.1 hf).1), Nat.le_trans (List.length_filter_le _ _) h.few, h.g0⟩
theorem NS.upd_nos (s : NS) (no : Int) (d : List Int) : (s.upd no d).l.map (·.no) = s.l.map (·.no) := by
  show (s.l.map _).map _ = _
  rw [List.map_map]
  apply List.map_congr_left
  intro f _
  show (if f.no = no then (⟨f.no, f.to, d⟩ : Fl) else f).no = f.no
  split <;> rfl
theorem NS.upd_ok {s : NS} (h : s.Ok) (no : Int) (d : List Int) : (s.upd no d).Ok := by
  refine ⟨by rw [s.upd_nos]; exact h.rise, ?_, ?_, h.g0⟩
  · intro f hf
    have h1 : f.no ∈ s.l.map (·.no) := by
      rw [← s.upd_nos no d]
      exact List.mem_map_of_mem hf
    obtain ⟨f', hf', e⟩ := List.mem_map.1 h1
    have := h.top f' hf'
    show 1 ≤ f.no ∧ f.no ≤ s.given
    rw [← e]
    exact this
  · show (s.l.map _).length ≤ 4096
    rw [List.length_map]
    exact h.few
theorem NS.find_some {s : NS} {no : Int} {f : Fl} (h : s.find no = some f) : f ∈ s.l ∧ f.no = no :=
  ⟨List.mem_of_find?_eq_some h, by simpa using List.find?_some h⟩
theorem NS.find_none {s : NS} {no : Int} (h : s.find no = none) : ∀ f ∈ s.l, f.no ≠ no := fun f hf => by
  have := List.find?_eq_none.1 h f hf
  simpa using this
/-- Where a number stands. -/
theorem NS.find_at {s : NS} (h : s.Ok) {k : Nat} {f : Fl} (hk : s.l[k]? = some f) : s.find f.no = some f := by
  cases hf : s.find f.no with
  | none => exact absurd rfl (NS.find_none hf f (List.mem_iff_getElem?.2 ⟨k, hk⟩))
  | some q =>
    obtain ⟨hq, e⟩ := NS.find_some hf
    obtain ⟨j, hj⟩ := List.mem_iff_getElem?.1 hq
    have hp := List.pairwise_iff_getElem.1 h.rise
    have l1 := (List.getElem?_eq_some_iff.1 hk).1
    have l2 := (List.getElem?_eq_some_iff.1 hj).1
    have e1 : (s.l.map (·.no))[k]'(by rw [List.length_map]; exact l1) = f.no := by rw [List.getElem_map, (List.getElem?_eq_some_iff.1 hk).2]
    have e2 : (s.l.map (·.no))[j]'(by rw [List.length_map]; exact l2) = q.no := by rw [List.getElem_map, (List.getElem?_eq_some_iff.1 hj).2]
    rcases Nat.lt_trichotomy k j with hlt | rfl | hlt
    · have := hp k j (by rw [List.length_map]; exact l1) (by rw [List.length_map]; exact l2) hlt
      rw [e1, e2] at this
      omega
    · rw [hk] at hj
      cases hj
      rfl
    · have := hp j k (by rw [List.length_map]; exact l2) (by rw [List.length_map]; exact l1) hlt
      rw [e1, e2] at this
      omega
theorem NS.del_none {s : NS} {no : Int} (h : s.find no = none) : s.del no = s := by
  have : s.l.filter (fun f => !decide (f.no = no)) = s.l := List.filter_eq_self.2 (fun f hf => by simpa using NS.find_none h f hf)
  unfold NS.del
  rw [this]
/-- The place of a number. -/
def NS.idx (s : NS) (no : Int) : Nat := s.l.findIdx (fun f => decide (f.no = no))
theorem NS.idx_get {s : NS} {no : Int} {f : Fl} (h : s.find no = some f) : s.l[s.idx no]? = some f := by
  unfold NS.find at h
  rw [List.find?_eq_getElem?_findIdx] at h
  exact h
theorem NS.idx_none {s : NS} {no : Int} (h : s.find no = none) : s.idx no = s.l.length := by
  unfold NS.find at h
  exact List.findIdx_eq_length.2 (fun f hf => by simpa using List.find?_eq_none.1 h f hf)
theorem NS.at_uniq {s : NS} (h : s.Ok) {j k : Nat} {f q : Fl} (hj : s.l[j]? = some f) (hk : s.l[k]? = some q) (e : f.no = q.no) : j = k := by
  have hp := List.pairwise_iff_getElem.1 h.rise
  have l1 := (List.getElem?_eq_some_iff.1 hk).1
  have l2 := (List.getElem?_eq_some_iff.1 hj).1
  have e1 : (s.l.map (·.no))[k]'(by rw [List.length_map]; exact l1) = q.no := by rw [List.getElem_map, (List.getElem?_eq_some_iff.1 hk).2]
  have e2 : (s.l.map (·.no))[j]'(by rw [List.length_map]; exact l2) = f.no := by rw [List.getElem_map, (List.getElem?_eq_some_iff.1 hj).2]
  rcases Nat.lt_trichotomy k j with hlt | rfl | hlt
  · have := hp k j (by rw [List.length_map]; exact l1) (by rw [List.length_map]; exact l2) hlt
    rw [e1, e2] at this
    omega
  · rfl
  · have := hp j k (by rw [List.length_map]; exact l2) (by rw [List.length_map]; exact l1) hlt
    rw [e1, e2] at this
    omega
theorem filter_erase {α : Type} (p : α → Bool) : ∀ (l : List α) (k : Nat), (∀ j f, l[j]? = some f → (p f = true ↔ j ≠ k)) → l.filter p = l.eraseIdx k
  | [], _, _ => rfl
  | a :: l, 0, h => by
    have h0 : p a = false := by
      have := h 0 a rfl
      cases hp : p a with
      | false => rfl
      | true => exact absurd rfl (this.1 hp)
    rw [List.filter_cons, if_neg (by rw [h0]; exact Bool.false_ne_true), List.eraseIdx_cons_zero]
    apply List.filter_eq_self.2
    intro f hf
    obtain ⟨j, hj⟩ := List.mem_iff_getElem?.1 hf
    exact (h (j + 1) f (by simpa using hj)).2 (by omega)
  | a :: l, k + 1, h => by
    have h0 : p a = true := (h 0 a rfl).2 (by omega)
    rw [List.filter_cons, if_pos h0, List.eraseIdx_cons_succ, filter_erase p l k (fun j f hj => by
      rw [h (j + 1) f (by simpa using hj)]
      omega)]
theorem NS.del_at {s : NS} (h : s.Ok) {k : Nat} {f : Fl} (hk : s.l[k]? = some f) : (s.del f.no).l = s.l.eraseIdx k := by
  show s.l.filter _ = _
  apply filter_erase
  intro j q hj
  constructor
  · intro hq e
    subst e
    rw [hk] at hj
    cases hj
    simp at hq
  · intro hne
    have : q.no ≠ f.no := fun e => hne (NS.at_uniq h hj hk e)
    simpa using this
theorem NS.upd_at {s : NS} (h : s.Ok) {k : Nat} {f : Fl} (hk : s.l[k]? = some f) (d : List Int) : (s.upd f.no d).l = s.l.set k ⟨f.no, f.to, d⟩ := by
  show s.l.map _ = _
  apply List.ext_getElem?
  intro j
  rw [List.getElem?_map, List.getElem?_set]
  have hkl := (List.getElem?_eq_some_iff.1 hk).1
  by_cases e : k = j
  · subst e
    rw [if_pos rfl, if_pos hkl, hk]
    simp
  · rw [if_neg e]
    cases hj : s.l[j]? with
    | none => rfl
    | some q =>
      have hne : q.no ≠ f.no := fun e' => e (NS.at_uniq h hj hk e').symm
      simp [hne]
end Go.Proofs.Ytbfmmgbfliebhaa
