import Derived.Test.YtfolhmlldoepfaaGreatDoorGf
namespace Go.Proofs.YtfolhmlldoepfaaGreatDoor
open Go Go.Proofs Go.RowKit
set_option maxRecDepth 4000
end Go.Proofs.YtfolhmlldoepfaaGreatDoor
namespace Go.Proofs.YtfolhmlldoepfaaGreatDoor
open Go Go.Proofs Go.RowKit
set_option maxRecDepth 4000
end Go.Proofs.YtfolhmlldoepfaaGreatDoor
namespace Go.Proofs.YtfolhmlldoepfaaGreatDoor
open Go Go.Proofs Go.RowKit
set_option maxRecDepth 4000
section
variable {P : Program} {n : Nat} {ds : List Deferred} {e : Env} {w0 : World} {F0 : Nat → Prop} {L : List Asn}
end
abbrev room3 : List Int := [161, 162, 163]
theorem room_makes {bs : List Int} {w : World} {v : Value} (h1 : Rd byteE w v bs) (hl : bs.length ≤ 140737488355100) :
    Makes Tryz.prog 17 [v] w (fun u M => M = [RowV byteE 5 u (bs ++ room3)]) := by
  refine makes_of Tryz.func17 rfl rfl (Nat.le_of_ble_eq_true rfl) ?_
  (refine Zx rfl rfl rfl rfl rfl ?_; refine Zw rfl rfl rfl rfl rfl ?_; refine hx_plain rfl ?_)
  refine h_callW (post := fun u M => M = [RowV byteE 5 u bs]) rfl rfl rfl rfl rfl rfl rfl rfl EC.out (fun w' h => bytes_makes (h.rd h1) (by omega)) ?_
  rintro u M rfl
  (refine Zn rfl rfl rfl rfl rfl ?_; refine Zw rfl rfl rfl rfl rfl ?_; refine hx_plain rfl ?_; (refine h_buildSlice rfl rfl rfl UC.out IC.size IC.zero rfl rfl (by intro v hv; simp at hv; first | (subst hv; rfl) | (rcases hv with rfl | rfl <;> rfl) | (rcases hv with rfl | rfl | rfl <;> rfl)) (by omega) rfl rfl (fun _ => ?_)); refine hx_plain rfl ?_)
  refine h_append (m := 3) (E := byteE) (T := 5) (xs := bs) (ys := [161, 162, 163]) rfl rfl rfl rfl rfl UC.out IC.out rfl (.cons (.tail .head) (.cons .head .nil)) rfl (flat_row byteE [161, 162, 163]) (by unfold maxLen; omega) (by omega) rfl rfl (fun v' _ => ?_)
  (refine Zn rfl rfl rfl rfl rfl ?_; refine Zw rfl rfl rfl rfl rfl ?_; refine Zn rfl rfl rfl rfl rfl ?_; refine hc_ret ?_)
  exact hq_ret1 (.inr rfl) rfl rfl rfl (fun _ h => h.sub (.cons .head .nil))
theorem rd_full {X : Type} {E : Elem X} {w : World} {xs ys : List X} {g c n : Nat} (h : Rd E w (.slice (some ⟨g, 0, none⟩) (xs ++ ys).length c) (xs ++ ys)) (hn : n = xs.length) : Rd E w (.slice (some ⟨g, 0, none⟩) n c) xs := by
  subst hn
  have := h.takeN (n := xs.length) (by rw [List.length_append]; omega)
  rw [List.take_left] at this
  exact this
end Go.Proofs.YtfolhmlldoepfaaGreatDoor
namespace Go.Proofs.YtfolhmlldoepfaaGreatDoor
open Go Go.Proofs Go.RowKit
set_option maxRecDepth 4000
def BytP (bs : List Int) (u : Value) (M : List Asn) : Prop := ∃ a c, u = .slice a bs.length c ∧ M = [RowV byteE 5 (.slice a bs.length c) bs]
theorem bytes_lit {bs : List Int} {w : World} {v : Value} (h1 : Rd byteE w v bs) (hl : bs.length ≤ 140737488355200) : Makes Tryz.prog 44 [v] w (BytP bs) :=
  (bytes_makes h1 hl).imp fun u M _ _ _ h hst => by
    subst h
    obtain ⟨a, c, rfl⟩ := St.rowV_shapeS hst .head
    exact ⟨a, c, rfl, rfl⟩
end Go.Proofs.YtfolhmlldoepfaaGreatDoor
