import Derived.Test.YtjnnlfeohbidhaaDoorL3
namespace Go.Proofs.YtjnnlfeohbidhaaDoor
open Go Go.Proofs Go.RowKit
set_option maxRecDepth 4000

/-! ### What is read, written again -/
theorem numP_add : ∀ (l : List Int) (y : Int), numP y l = y * 256 ^ l.length + numP 0 l
  | [], y => by simp [numP]
  | c :: l, y => by
    show numP (y * 256 + c) l = _ + numP (0 * 256 + c) l
    rw [numP_add l (y * 256 + c), numP_add l (0 * 256 + c), List.length_cons, Int.pow_succ, Int.zero_mul, Int.zero_add, Int.add_mul, Int.mul_assoc, Int.mul_comm 256 (256 ^ l.length), Int.add_assoc]
theorem dg_num : ∀ (l : List Int) (y : Int), Byts l → l.length ≤ 8 → dg (numP y l) l.length = l
  | [], y, _, _ => rfl
  | c :: l, y, hb, hl => by
    have hbl : Byts l := fun x hx => hb x (List.mem_cons_of_mem _ hx)
    have hc := hb c (List.mem_cons_self ..)
    rw [List.length_cons] at hl ⊢
    show IntKind.u8.wrap (numP (y * 256 + c) l / 2 ^ (8 * l.length)) :: dg (numP (y * 256 + c) l) l.length = c :: l
    rw [dg_num l (y * 256 + c) hbl (by omega)]
    congr 1
    obtain ⟨_, h2, h3⟩ := numR_eq hbl (by omega)
    have e1 : (2 : Int) ^ (8 * l.length) = 256 ^ l.length := by
      rw [Int.pow_mul]
      rfl
    have hp : (0 : Int) < 256 ^ l.length := Int.pow_pos (by decide)
    rw [numP_add, e1, Int.add_comm, Int.add_mul_ediv_right _ _ (by omega), Int.ediv_eq_zero_of_lt h2 h3, Int.zero_add, wrap8_eq]
    omega
theorem take_len {bs : List Int} {at_ n : Nat} (h : at_ + n ≤ bs.length) : ((bs.drop at_).take n).length = n := by rw [List.length_take, List.length_drop]; omega
theorem again4 {bs : List Int} {at_ : Nat} (hb : Byts bs) (h : at_ + 4 ≤ bs.length) : dg (IntKind.u64.wrap (N4 bs at_)) 4 = (bs.drop at_).take 4 := by
  obtain ⟨e1, e2, e3⟩ := N4_eq hb at_
  rw [u64_in (by omega), e1, (numR_eq (byts_sub hb at_ 4) (by rw [take_len h]; decide)).1]
  have := dg_num ((bs.drop at_).take 4) 0 (byts_sub hb at_ 4) (by rw [take_len h]; decide)
  rwa [take_len h] at this
theorem N8_in {bs : List Int} {at_ : Nat} (hb : Byts bs) : N8 bs at_ = numP 0 ((bs.drop at_).take 8) ∧ 0 ≤ N8 bs at_ ∧ N8 bs at_ ≤ 18446744073709551615 := by
  obtain ⟨h1, h2, h3⟩ := numR_eq (byts_sub hb at_ 8) (by rw [List.length_take]; omega)
  have h4 : (256 : Int) ^ ((bs.drop at_).take 8).length ≤ 256 ^ 8 := pow256_le (by rw [List.length_take]; omega)
  have h5 : (256 : Int) ^ 8 = 18446744073709551616 := by decide
  refine ⟨h1, ?_, ?_⟩
  · show 0 ≤ numR _; omega
  · show numR _ ≤ _; omega
theorem again8 {bs : List Int} {at_ : Nat} (hb : Byts bs) (h : at_ + 8 ≤ bs.length) : dg (N8 bs at_) 8 = (bs.drop at_).take 8 := by
  rw [(N8_in hb).1]
  have := dg_num ((bs.drop at_).take 8) 0 (byts_sub hb at_ 8) (by rw [take_len h]; decide)
  rwa [take_len h] at this
theorem againB {bs : List Int} {at_ : Nat} {most : Int} (hb : Byts bs) (h : bodyE bs at_ most = 0) : fieldB ((bs.drop (at_ + 4)).take (NB bs at_)) = (bs.drop at_).take (4 + NB bs at_ + padN (NB bs at_)) := by
  obtain ⟨h1, h2, h3, h4, h5⟩ := bodyE_ok h
  have hl : ((bs.drop (at_ + 4)).take (NB bs at_)).length = NB bs at_ := take_len (by omega)
  have e1 := N4_nat hb at_
  have e2 : N4 bs at_ = ((NB bs at_ : Nat) : Int) := e1
  unfold fieldB
  rw [hl, ← e2, again4 hb h1]
  have hp : List.replicate (padN (NB bs at_)) (0 : Int) = padsOf bs at_ := by
    have hlen : (padsOf bs at_).length = padN (NB bs at_) := take_len h4
    rw [List.eq_replicate_of_mem (fun x hx => h5 x hx), hlen]
  rw [hp]
  unfold padsOf
  rw [Nat.add_assoc 4, List.take_add, List.append_assoc, List.append_cancel_left_eq, List.drop_drop, List.take_add, List.drop_drop]
theorem take_more {bs : List Int} (at_ n : Nat) : bs.take at_ ++ (bs.drop at_).take n = bs.take (at_ + n) := by rw [List.take_add]

/-! ### Bytes that are only read, as a piece -/
def RdP (v : Value) (xs : List Int) : Asn where
  p w F := Rd byteE w v xs ∧ (∀ b, F b → b < w.heap.size) ∧ (xs ≠ [] → ∃ a n c, v = .slice (some a) n c ∧ F a.block)
  lt := fun h => h.2.1
  loc := fun {w w' F} ⟨h1, h2, h3⟩ hh => ⟨by
    obtain ⟨a, cap, e1, e2, e3, e4⟩ := h1
    refine ⟨a, cap, e1, e2, e3, ?_⟩
    by_cases hx : xs = []
    · exact .inl hx
    · obtain ⟨g, off, e5, hc⟩ := e4.resolve_left hx
      obtain ⟨a', n, c, e6, hF⟩ := h3 hx
      rw [e1] at e6
      injection e6 with e6
      rw [e5] at e6
      injection e6 with e6
      subst e6
      refine .inr ⟨g, off, e5, fun i x hi j u hu => ?_⟩
      have := hc i x hi j u hu
      unfold World.cell? at this ⊢
      rw [hh g hF]
      exact this, fun b hb => by
    have hb' := h2 b hb
    have e := hh b hb
    rw [Array.getElem?_eq_getElem hb'] at e
    exact (Array.getElem?_eq_some_iff.1 e).1, h3⟩
section
variable {v : Value} {xs : List Int} {w0 : World} {F0 : Nat → Prop} {L L' : List Asn} {w : World} {T b cap : Nat}
theorem St.rdRdP (h : St w0 F0 L w) (hp : Pull L (RdP v xs) L') : Rd byteE w v xs := by
  obtain ⟨F, h1, _⟩ := h.get hp
  exact h1
theorem St.rdP_nil (h : St w0 F0 L w) : St w0 F0 (RdP (.slice none 0 0) [] :: L) w := by
  obtain ⟨F, h1, h2⟩ := h
  exact ⟨F, ⟨fun _ => False, F, ⟨rd_nil w, fun _ h => h.elim, fun h => absurd rfl h⟩, h1, fun _ h => h.elim, fun _ h => h.elim False.elim id⟩, h2⟩
theorem St.rowV_rdP (h : St w0 F0 (RowV byteE T v xs :: L) w) : St w0 F0 (RdP v xs :: L) w := by
  have hr := h.rdRowV .head
  obtain ⟨F, ⟨F1, F2, h1, r⟩, rr⟩ := h
  refine ⟨F, ⟨F1, F2, ⟨hr, (RowV byteE T v xs).lt h1, fun hx => ?_⟩, r⟩, rr⟩
  rcases h1 with ⟨_, e, _⟩ | ⟨g, cap, rfl, h2, _⟩
  · exact absurd e hx
  · exact ⟨_, _, _, rfl, (h2 g).2 rfl⟩
theorem St.bytB_rdP (h : St w0 F0 (BytB b cap xs :: L) w) : St w0 F0 (RdP (.slice (some ⟨b, 0, none⟩) xs.length cap) xs :: L) w := by
  have hr := h.rdBytB .head
  obtain ⟨F, ⟨F1, F2, h1, r⟩, rr⟩ := h
  exact ⟨F, ⟨F1, F2, ⟨hr, (BytB b cap xs).lt h1, fun _ => ⟨_, _, _, rfl, (h1.1 b).2 rfl⟩⟩, r⟩, rr⟩
end
end Go.Proofs.YtjnnlfeohbidhaaDoor
