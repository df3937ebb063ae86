import Derived.Test.YtjnnlfeohbidhaaDoorEngY
namespace Go.Proofs.YtjnnlfeohbidhaaDoor
open Go
section
variable {X : Type} {E : Elem X} {w : World} {xs : List X}
theorem Rd.takeN {a : Option Addr} {len cap n : Nat} (h : Rd E w (.slice a len cap) xs) (hn : n ≤ xs.length) : Rd E w (.slice a n cap) (xs.take n) := by
  obtain ⟨a', c, e, l1, l2, l3⟩ := h
  injection e with e1 e2 e3
  subst e1 e3
  have hlen : (xs.take n).length = n := by rw [List.length_take]; omega
  refine ⟨_, _, by rw [hlen], by rw [hlen]; omega, l2, ?_⟩
  rcases l3 with h | ⟨g, off, e4, hc⟩
  · left; rw [h]; simp
  · refine .inr ⟨g, off, e4, fun k x hk u v hv => hc k x ?_ u v hv⟩
    rw [List.getElem?_take] at hk
    split at hk
    · exact hk
    · cases hk
theorem Rd.dropN {g off len cap i : Nat} (h : Rd E w (.slice (some ⟨g, off, none⟩) len cap) xs) (hi : i ≤ xs.length) (hl : len = xs.length) : Rd E w (.slice (some ⟨g, if cap = i then off else off + i * E.sz, none⟩) (len - i) (cap - i)) (xs.drop i) := by
  subst hl
  have := h.sub hi (Nat.le_refl _)
  rwa [List.take_of_length_le (by rw [List.length_drop]; exact Nat.le_refl _)] at this
end
theorem Spec.conv {P : Program} {f : FuncId} {args : List Value} {pre : List Asn} {post post' : Value → List Asn → Prop} (h : Spec P f args pre post) (hc : ∀ v M, post v M → ∃ M', post' v M' ∧ ∀ w0 F w, St w0 F M w → St w0 F M' w) : Spec P f args pre post' := fun w F hs =>
  (h w F hs).mono fun _ _ ⟨v, M, e, hp, hst⟩ => let ⟨M', hp', hm⟩ := hc v M hp; ⟨v, M', e, hp', hm _ _ _ hst⟩
theorem Makes.reads {P : Program} {f : FuncId} {args : List Value} {w : World} {v : Value} (h : Makes P f args w (fun u M => u = v ∧ M = [])) : Calls P f args.toArray w (fun en w' => en = .returned v ∧ But w w' nowhere) :=
  h.mono fun _ _ ⟨_, _, e, ⟨h1, _⟩, hst⟩ => ⟨by rw [e, h1], hst.but⟩
theorem reads_makes {P : Program} {f : FuncId} {args : List Value} {w : World} {v : Value} (h : Calls P f args.toArray w (fun en w' => en = .returned v ∧ But w w' nowhere)) : Makes P f args w (fun u M => u = v ∧ M = []) :=
  h.mono fun _ _ ⟨e, hb⟩ => ⟨v, [], e, ⟨rfl, rfl⟩, st_none' hb⟩
/-- A list being laid from the front. -/
def laid {α : Type} (z : α) (xs : List α) (i : Nat) : List α := xs.take i ++ List.replicate (xs.length - i) z
theorem laid_len {α : Type} {z : α} {xs : List α} {i : Nat} (h : i ≤ xs.length) : (laid z xs i).length = xs.length := by simp [laid]; omega
theorem laid_set {α : Type} {z : α} {xs : List α} {i : Nat} (h : i < xs.length) : (laid z xs i).set i xs[i] = laid z xs (i + 1) := by
  unfold laid
  have h1 : (xs.take i).length = i := by rw [List.length_take]; omega
  rw [List.set_append_right _ _ (by omega), h1, Nat.sub_self]
  have h2 : xs.length - i = (xs.length - (i + 1)) + 1 := by omega
  rw [h2, List.replicate_succ, List.set_cons_zero, List.take_succ_eq_append_getElem h, List.append_assoc]
  rfl
theorem laid_all {α : Type} {z : α} {xs : List α} {i : Nat} (h : i = xs.length) : laid z xs i = xs := by
  subst h
  simp [laid]
end Go.Proofs.YtjnnlfeohbidhaaDoor
