import Derived.Test.YtjnnlfeohbidhaaDoorO2
namespace Go.Proofs.YtjnnlfeohbidhaaDoor
open Go Go.Proofs Go.RowKit
set_option maxRecDepth 4000

/-! ### A shelf of readers -/
def ptrE : Elem Nat where
  sz := 1
  pos := by decide
  enc p := [.pointer (some ⟨p, 0, none⟩)]
  len _ := rfl
  one t v hv := by
    simp at hv
    rcases hv with rfl
    rfl
def rdsL (items : List (ItM × List Int)) (ps : List Nat) (at_ : Nat → Nat) (er : Nat → Int) : List Asn := ps.zipIdx.map fun q => RdrX q.1 (bsF items q.2) (at_ q.2) (er q.2)
def RdS (items : List (ItM × List Int)) (ps : List Nat) (at_ : Nat → Nat) (er : Nat → Int) : Asn := All (rdsL items ps at_ er)
def RdE (items : List (ItM × List Int)) (ps : List Nat) (at_ : Nat → Nat) (er : Nat → Int) (k : Nat) : Asn := All ((rdsL items ps at_ er).eraseIdx k)
section
variable {items : List (ItM × List Int)} {ps : List Nat} {at_ at' : Nat → Nat} {er er' : Nat → Int} {k p : Nat} {w w0 : World} {F0 : Nat → Prop} {R : List Asn}
theorem rdsL_get (h : ps[k]? = some p) : (rdsL items ps at_ er)[k]? = some (RdrX p (bsF items k) (at_ k) (er k)) := by
  unfold rdsL
  rw [List.getElem?_map, List.getElem?_zipIdx, h]
  simp
theorem perm_erase {α : Type} {l : List α} {k : Nat} {a : α} (h : l[k]? = some a) : l.Perm (a :: l.eraseIdx k) := by
  obtain ⟨hk, rfl⟩ := List.getElem?_eq_some_iff.1 h
  rw [List.eraseIdx_eq_take_drop_succ]
  conv => lhs; rw [← List.take_append_drop k l, List.drop_eq_getElem_cons hk]
  exact List.perm_middle
theorem RdS_open (h : ps[k]? = some p) (w w0 : World) (F0 : Nat → Prop) (R : List Asn) (hs : St w0 F0 (RdS items ps at_ er :: R) w) : ∃ _ : Unit, St w0 F0 ([RdrX p (bsF items k) (at_ k) (er k), RdE items ps at_ er k] ++ R) w :=
  ⟨(), all_cons (all_perm (perm_erase (rdsL_get h)) hs)⟩
theorem RdS_shut (h : ps[k]? = some p) (hat : ∀ j, j ≠ k → at' j = at_ j) (her : ∀ j, j ≠ k → er' j = er j) (hs : St w0 F0 (RdrX p (bsF items k) (at' k) (er' k) :: RdE items ps at_ er k :: R) w) : St w0 F0 (RdS items ps at' er' :: R) w := by
  have e : (rdsL items ps at_ er).eraseIdx k = (rdsL items ps at' er').eraseIdx k := by
    apply List.ext_getElem?
    intro j
    have key : ∀ m, m ≠ k → (rdsL items ps at_ er)[m]? = (rdsL items ps at' er')[m]? := by
      intro m hm
      unfold rdsL
      rw [List.getElem?_map, List.getElem?_map, List.getElem?_zipIdx]
      cases ps[m]? with
      | none => rfl
      | some q =>
        simp only [Option.map_some, Nat.zero_add]
        rw [hat m hm, her m hm]
    rw [List.getElem?_eraseIdx, List.getElem?_eraseIdx]
    split
    · exact key j (by omega)
    · exact key (j + 1) (by omega)
  unfold RdE at hs
  rw [e] at hs
  exact all_perm (perm_erase (rdsL_get h)).symm (all_mk hs)
theorem RdS_shut' {a : Nat} {e : Int} (at' : Nat → Nat) (er' : Nat → Int) (ea : at' k = a) (ee : er' k = e) (h : ps[k]? = some p) (hat : ∀ j, j ≠ k → at' j = at_ j) (her : ∀ j, j ≠ k → er' j = er j) (hs : St w0 F0 (RdrX p (bsF items k) a e :: RdE items ps at_ er k :: R) w) : St w0 F0 (RdS items ps at' er' :: R) w := by
  subst ea ee
  exact RdS_shut h hat her hs
theorem if_step {α : Type} {i j : Nat} (h : j ≠ i) (a b : α) : (if j < i + 1 then a else b) = if j < i then a else b := by
  by_cases hj : j < i
  · rw [if_pos hj, if_pos (by omega)]
  · rw [if_neg hj, if_neg (by omega)]
theorem RdS_congr (at' : Nat → Nat) (er' : Nat → Int) (hat : ∀ j, j < ps.length → at_ j = at' j) (her : ∀ j, j < ps.length → er j = er' j) (hs : St w0 F0 (RdS items ps at_ er :: R) w) : St w0 F0 (RdS items ps at' er' :: R) w := by
  have e : rdsL items ps at_ er = rdsL items ps at' er' := by
    unfold rdsL
    apply List.map_congr_left
    rintro ⟨p, k⟩ hm
    obtain ⟨j, hj⟩ := List.mem_iff_getElem?.1 hm
    rw [List.getElem?_zipIdx] at hj
    have hk : k < ps.length := by
      cases hp : ps[j]? with
      | none => rw [hp] at hj; cases hj
      | some q =>
        rw [hp] at hj
        simp at hj
        have := (List.getElem?_eq_some_iff.1 hp).1
        omega
    dsimp only
    rw [hat k hk, her k hk]
  unfold RdS at hs
  rw [e] at hs
  exact hs
theorem RdS_nil (hs : St w0 F0 R w) : St w0 F0 (RdS items [] at_ er :: R) w := St.all.2 hs
theorem RdS_two {q : Nat} {n : Nat} (hn : ps.length = 2 * n) (hs : St w0 F0 (RdS items ps at_ er :: RdrX p (bsF items (2 * n)) (at_ (2 * n)) (er (2 * n)) :: RdrX q (bsF items (2 * n + 1)) (at_ (2 * n + 1)) (er (2 * n + 1)) :: R) w) : St w0 F0 (RdS items (ps ++ [p, q]) at_ er :: R) w := by
  have e : rdsL items (ps ++ [p, q]) at_ er = rdsL items ps at_ er ++ [RdrX p (bsF items (2 * n)) (at_ (2 * n)) (er (2 * n)), RdrX q (bsF items (2 * n + 1)) (at_ (2 * n + 1)) (er (2 * n + 1))] := by
    unfold rdsL
    rw [List.zipIdx_append, List.map_append, Nat.zero_add, hn]
    rfl
  have h1 := St.all.1 hs
  unfold RdS
  rw [e]
  apply St.all.2
  rw [List.append_assoc]
  exact h1
/-- Lists that are kept as they were made. -/
def HoldR (items : List (ItM × List Int)) (gs : List SlV) : Asn := Holds byteE (gs.zipIdx.map fun q => (q.1.v, roomB items q.2))
theorem HoldR_nil (hs : St w0 F0 R w) : St w0 F0 (HoldR items [] :: R) w := hs.holds_nil
theorem HoldR_add {gs : List SlV} {T : Nat} {s : SlV} (hs : St w0 F0 (HoldR items gs :: RowV byteE T s.v (roomB items gs.length) :: R) w) : St w0 F0 (HoldR items (gs ++ [s]) :: R) w := by
  have h1 := (hs.perm (List.Perm.swap _ _ _)).rowV_holds
  have h2 := (h1.perm (List.Perm.swap _ _ _)).holds_join
  unfold HoldR
  rw [List.zipIdx_append, List.map_append, Nat.zero_add]
  exact h2
theorem RdS_two' {q : Nat} {n : Nat} {x1 x2 : List Int} (e1 : x1 = bsF items (2 * n)) (e2 : x2 = bsF items (2 * n + 1)) (hn : ps.length = 2 * n) (hs : St w0 F0 (RdS items ps at_ er :: RdrX p x1 (at_ (2 * n)) (er (2 * n)) :: RdrX q x2 (at_ (2 * n + 1)) (er (2 * n + 1)) :: R) w) : St w0 F0 (RdS items (ps ++ [p, q]) at_ er :: R) w := by
  subst e1 e2
  exact RdS_two hn hs
theorem HoldR_add' {gs : List SlV} {T : Nat} {s : SlV} {x : List Int} (e : x = roomB items gs.length) (hs : St w0 F0 (HoldR items gs :: RowV byteE T s.v x :: R) w) : St w0 F0 (HoldR items (gs ++ [s]) :: R) w := by
  subst e
  exact HoldR_add hs
/-- Lists that were handed out, the last reader's first. -/
def lsL (items : List (ItM × List Int)) (N : Nat) (ls : List SlV) : List (SlV × Nat) := ls.zipIdx.map fun q => (q.1, (N - 1 - q.2) / 2)
def lsA (items : List (ItM × List Int)) (q : SlV × Nat) : Asn := RowV byteE 5 q.1.v (dsOf items q.2)
def LsS (items : List (ItM × List Int)) (N : Nat) (ls : List SlV) : Asn := All ((lsL items N ls).map (lsA items))
theorem LsS_nil {N : Nat} (hs : St w0 F0 R w) : St w0 F0 (LsS items N [] :: R) w := St.all.2 hs
theorem LsS_add {N : Nat} {ls : List SlV} {s : SlV} {x : List Int} (e : x = dsOf items ((N - 1 - ls.length) / 2)) (hs : St w0 F0 (LsS items N ls :: RowV byteE 5 s.v x :: R) w) : St w0 F0 (LsS items N (ls ++ [s]) :: R) w := by
  subst e
  have h1 := St.all.1 hs
  unfold LsS lsL
  rw [List.zipIdx_append, List.map_append, List.map_append, Nat.zero_add]
  apply St.all.2
  rw [List.append_assoc]
  exact h1
theorem lsL_len {N : Nat} {ls : List SlV} : (lsL items N ls).length = ls.length := by unfold lsL; rw [List.length_map, List.length_zipIdx]
theorem lsL_get {N i : Nat} {ls : List SlV} {s : SlV} (hi : i < (lsL items N ls).length) (h : ls[i]? = some s) : (lsL items N ls)[i] = (s, (N - 1 - i) / 2) := by
  apply Option.some.inj
  rw [← List.getElem?_eq_getElem hi]
  unfold lsL
  rw [List.getElem?_map, List.getElem?_zipIdx, h]
  simp
theorem HoldR_mem {gs : List SlV} {j : Nat} {s : SlV} (h : gs[j]? = some s) : (s.v, roomB items j) ∈ (gs.zipIdx.map fun q => (q.1.v, roomB items q.2)) := by
  refine List.mem_map.2 ⟨(s, j), ?_, rfl⟩
  exact List.mem_iff_getElem?.2 ⟨j, by rw [List.getElem?_zipIdx, h]; simp⟩
end
section
variable {P : Program} {n : Nat} {ds : List Deferred} {ops : Array Oper} {ev wk : Nat → Bool} {K : Env → (World → Prop) → Prop} {r : List Oper} {o : Oper} {k : Nat} {e : Env} {C : World → Prop}
theorem h_cellLoad {t g a : Nat} {x : Operand} {d : TypeDesc} {v : Value} (ho : o.op = .load t x) (hx : e.op x = some (.pointer (some ⟨g, a, none⟩))) (hr : ∀ w, C w → w.cell? ⟨g, a, none⟩ = some v) (hu : P.underlying t = some d) (hna : aggD d = false)
    {dd : Nat} (hdst : o.dst = some dd) (hd : okD n (some dd) = true) (h : HX P n ds ops ev wk K r (k + 1) ((dd, v) :: e) C) : HX1 P n ds ops ev wk K o r k e C :=
  hx1_read (by rw [ho]; rfl) (by rw [ho]; rfl) hdst hd (fun a' w ha hC => by
    simp [execOp, ho, ha.eval hx, run_load1 hu hna (hr w hC)]) h
end
theorem St.rowV_shape {X : Type} {E : Elem X} {T : Nat} {v : Value} {xs : List X} {w w0 : World} {F0 : Nat → Prop} {L L' : List Asn} (h : St w0 F0 L w) (hp : Pull L (RowV E T v xs) L') : ∃ a c, v = .slice a xs.length c := by
  obtain ⟨a, c, e, _⟩ := h.rdRowV hp
  exact ⟨a, c, e⟩
/-- The answer is a list: what it looks like. -/
theorem SpecB.shape {X : Type} {E : Elem X} {T : Nat} {P : Program} {w1 : World} {f : FuncId} {args : List Value} {pre M' : List Asn} {xs : List X} (h : SpecB P w1 f args pre (fun u M => M = RowV E T u xs :: M')) : SpecB P w1 f args pre (fun u M => ∃ a c, u = .slice a xs.length c ∧ M = RowV E T u xs :: M') := fun w F hs hB hF =>
  (h w F hs hB hF).mono fun en w' ⟨v, M, e, hM, hst⟩ => by
    subst hM
    obtain ⟨a, c, e2, _⟩ := hst.rdRowV .head
    exact ⟨v, _, e, ⟨a, c, e2, rfl⟩, hst⟩
end Go.Proofs.YtjnnlfeohbidhaaDoor
