import Derived.Test.YtbelfaoolnijiaaEngK
namespace Go.Proofs.Ytbelfaoolnijiaa
open Go Go.Proofs

/-! ### Shelves: any number of objects, one at a time taken down -/
theorem shl_cons {A : Asn} {M : List Asn} {w w0 : World} {F0 : Nat → Prop} {R : List Asn} (h : St w0 F0 (All (A :: M) :: R) w) : St w0 F0 (A :: All M :: R) w := by
  have h1 : St w0 F0 (A :: (M ++ R)) w := St.all.1 h
  have h2 : St w0 F0 (M ++ (A :: R)) w := h1.perm List.perm_middle.symm
  exact (St.all.2 h2).perm (List.Perm.swap _ _ _)
theorem shl_mk {A : Asn} {M : List Asn} {w w0 : World} {F0 : Nat → Prop} {R : List Asn} (h : St w0 F0 (A :: All M :: R) w) : St w0 F0 (All (A :: M) :: R) w := by
  have h1 : St w0 F0 (All M :: A :: R) w := h.perm (List.Perm.swap _ _ _)
  have h2 : St w0 F0 (M ++ (A :: R)) w := St.all.1 h1
  exact St.all.2 (h2.perm List.perm_middle)
theorem shl_perm {M M' : List Asn} {w w0 : World} {F0 : Nat → Prop} {R : List Asn} (hp : M.Perm M') (h : St w0 F0 (All M :: R) w) : St w0 F0 (All M' :: R) w :=
  St.all.2 ((St.all.1 h).perm (hp.append_right R))
theorem shl_snoc {A : Asn} {M : List Asn} {w w0 : World} {F0 : Nat → Prop} {R : List Asn} (h : St w0 F0 (All M :: A :: R) w) : St w0 F0 (All (M ++ [A]) :: R) w := by
  have h1 := St.all.1 h
  apply St.all.2
  rw [List.append_assoc]
  exact h1
theorem shl_erase {α : Type} {l : List α} {k : Nat} {a : α} (h : l[k]? = some a) : l.Perm (a :: l.eraseIdx k) := by
  obtain ⟨hk, rfl⟩ := List.getElem?_eq_some_iff.1 h
  rw [List.eraseIdx_eq_take_drop_succ]
  conv => lhs; rw [← List.take_append_drop k l, List.drop_eq_getElem_cons hk]
  exact List.perm_middle
/-- The k-th of the list is G of it and of k. -/
def shL {X : Type} (G : X → Nat → Asn) (ps : List X) : List Asn := ps.zipIdx.map fun q => G q.1 q.2
def ShG {X : Type} (G : X → Nat → Asn) (ps : List X) : Asn := All (shL G ps)
def ShE {X : Type} (G : X → Nat → Asn) (ps : List X) (k : Nat) : Asn := All ((shL G ps).eraseIdx k)
section
variable {X : Type} {G G' : X → Nat → Asn} {ps : List X} {k : Nat} {p : X} {w w0 : World} {F0 : Nat → Prop} {R : List Asn}
theorem shL_get (h : ps[k]? = some p) : (shL G ps)[k]? = some (G p k) := by
  unfold shL
  rw [List.getElem?_map, List.getElem?_zipIdx, h]
  simp
theorem ShG_open (h : ps[k]? = some p) (w w0 : World) (F0 : Nat → Prop) (R : List Asn) (hs : St w0 F0 (ShG G ps :: R) w) : ∃ _ : Unit, St w0 F0 ([G p k, ShE G ps k] ++ R) w :=
  ⟨(), shl_cons (shl_perm (shl_erase (shL_get h)) hs)⟩
theorem ShG_shut {A : Asn} (G' : X → Nat → Asn) (h : ps[k]? = some p) (ha : G' p k = A) (he : ∀ x j, j ≠ k → G' x j = G x j) (hs : St w0 F0 (A :: ShE G ps k :: R) w) : St w0 F0 (ShG G' ps :: R) w := by
  subst ha
  have e : (shL G ps).eraseIdx k = (shL G' ps).eraseIdx k := by
    apply List.ext_getElem?
    intro j
    have key : ∀ m, m ≠ k → (shL G ps)[m]? = (shL G' ps)[m]? := by
      intro m hm
      unfold shL
      rw [List.getElem?_map, List.getElem?_map, List.getElem?_zipIdx]
      cases ps[m]? with
      | none => rfl
      | some q =>
        simp only [Option.map_some, Nat.zero_add]
        rw [he q m hm]
    rw [List.getElem?_eraseIdx, List.getElem?_eraseIdx]
    split
    · exact key j (by omega)
    · exact key (j + 1) (by omega)
  unfold ShE at hs
  rw [e] at hs
  exact shl_perm (shl_erase (shL_get h)).symm (shl_mk hs)
theorem ShG_congr (G' : X → Nat → Asn) (he : ∀ x j, j < ps.length → G x j = G' x j) (hs : St w0 F0 (ShG G ps :: R) w) : St w0 F0 (ShG G' ps :: R) w := by
  have e : shL G ps = shL G' ps := by
    apply List.ext_getElem?
    intro m
    unfold shL
    rw [List.getElem?_map, List.getElem?_map, List.getElem?_zipIdx]
    cases hm : ps[m]? with
    | none => rfl
    | some q =>
      have hl := (List.getElem?_eq_some_iff.1 hm).1
      simp only [Option.map_some, Nat.zero_add]
      rw [he q m hl]
  unfold ShG at hs
  rw [e] at hs
  exact hs
theorem ShG_nil (hs : St w0 F0 R w) : St w0 F0 (ShG G [] :: R) w := St.all.2 hs
theorem ShG_snoc (hs : St w0 F0 (ShG G ps :: G p ps.length :: R) w) : St w0 F0 (ShG G (ps ++ [p]) :: R) w := by
  have e : shL G (ps ++ [p]) = shL G ps ++ [G p ps.length] := by
    unfold shL
    rw [List.zipIdx_append, List.map_append, Nat.zero_add]
    rfl
  unfold ShG
  rw [e]
  exact shl_snoc hs
/-- Taken from the front. -/
theorem ShG_drop {i : Nat} (hi : i < (shL G ps).length) (w w0 : World) (F0 : Nat → Prop) (R : List Asn) (h : St w0 F0 (All ((shL G ps).drop i) :: R) w) : ∃ _ : Unit, St w0 F0 ([(shL G ps)[i], All ((shL G ps).drop (i + 1))] ++ R) w := by
  rw [List.drop_eq_getElem_cons hi] at h
  exact ⟨(), shl_cons h⟩
end
theorem if_stepS {α : Type} {i j : Nat} (h : j ≠ i) (a b : α) : (if j < i + 1 then a else b) = if j < i then a else b := by
  by_cases hj : j < i
  · rw [if_pos hj, if_pos (by omega)]
  · rw [if_neg hj, if_neg (by omega)]
/-- Pointers as elements. -/
def pntE : Elem Nat where
  sz := 1
  pos := by decide
  enc p := [.pointer (some ⟨p, 0, none⟩)]
  len _ := rfl
  one t v hv := by
    simp at hv
    rcases hv with rfl
    rfl
theorem St.rowV_shapeS {X : Type} {E : Elem X} {T : Nat} {v : Value} {xs : List X} {w w0 : World} {F0 : Nat → Prop} {L L' : List Asn} (h : St w0 F0 L w) (hp : Pull L (RowV E T v xs) L') : ∃ a c, v = .slice a xs.length c := by
  obtain ⟨a, c, e, _⟩ := h.rdRowV hp
  exact ⟨a, c, e⟩
end Go.Proofs.Ytbelfaoolnijiaa
