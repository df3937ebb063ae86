import Derived.Test.YtjnnlfeohbidhaaDoorL6
import Derived.Test.YtjnnlfeohbidhaaDoorArg
namespace Go.Proofs.YtjnnlfeohbidhaaDoor
open Go Go.Proofs Go.RowKit
set_option maxRecDepth 4000

theorem xor_u8 {a b : Int} (ha : 0 ≤ a ∧ a ≤ 255) (hb : 0 ≤ b ∧ b ≤ 255) : bits .xor .u8 a b = ((a.toNat ^^^ b.toNat : Nat) : Int) := by
  obtain ⟨a, rfl⟩ := Int.eq_ofNat_of_zero_le ha.1
  obtain ⟨b, rfl⟩ := Int.eq_ofNat_of_zero_le hb.1
  unfold bits
  dsimp only
  have hlt : a ^^^ b < 2 ^ 8 := Nat.xor_lt_two_pow (by omega) (by omega)
  have e1 : (BitVec.ofInt IntKind.u8.bits (a : Int) ^^^ BitVec.ofInt IntKind.u8.bits (b : Int)).toNat = a ^^^ b := by
    have hb8 : IntKind.u8.bits = 8 := rfl
    rw [hb8, BitVec.toNat_xor]
    simp only [BitVec.toNat_ofInt]
    have m1 : ((a : Int) % ((2 ^ 8 : Nat) : Int)).toNat = a := by omega
    have m2 : ((b : Int) % ((2 ^ 8 : Nat) : Int)).toNat = b := by omega
    rw [m1, m2]
  rw [e1]
  show ((a ^^^ b : Nat) : Int) % 256 = ((a ^^^ b : Nat) : Int)
  omega
theorem xor_byt {a b : Int} (ha : 0 ≤ a ∧ a ≤ 255) (hb : 0 ≤ b ∧ b ≤ 255) : 0 ≤ bits .xor .u8 a b ∧ bits .xor .u8 a b ≤ 255 := by
  rw [xor_u8 ha hb]
  have : a.toNat ^^^ b.toNat < 2 ^ 8 := Nat.xor_lt_two_pow (by omega) (by omega)
  omega
/-- The first i of a list turned. -/
def turnL (c : Int) (xs : List Int) (i : Nat) : List Int := (xs.take i).map (fun x => bits .xor .u8 x c) ++ xs.drop i
theorem turnL_len (c : Int) (xs : List Int) (i : Nat) : (turnL c xs i).length = xs.length := by
  unfold turnL
  rw [List.length_append, List.length_map, List.length_take, List.length_drop]
  omega
theorem turnL_get {c : Int} {xs : List Int} {i : Nat} (h : i < xs.length) : (turnL c xs i)[((i : Nat) : Int).toNat]? = some xs[i] := by
  unfold turnL
  rw [show ((i : Nat) : Int).toNat = i by omega, List.getElem?_append_right (by rw [List.length_map, List.length_take]; omega), List.length_map, List.length_take, List.getElem?_drop]
  rw [show i + (i - min i xs.length) = i by omega, List.getElem?_eq_getElem h]
theorem turnL_set {c : Int} {xs : List Int} {i : Nat} (h : i < xs.length) : (turnL c xs i).set i (bits .xor .u8 xs[i] c) = turnL c xs (i + 1) := by
  unfold turnL
  rw [List.set_append_right _ _ (by rw [List.length_map, List.length_take]; omega), List.length_map, List.length_take, show i - min i xs.length = 0 by omega, List.drop_eq_getElem_cons h, List.set_cons_zero, take_succ1 h, List.map_append, List.append_assoc]
  rfl
theorem turnL_byts {c : Int} {xs : List Int} {i : Nat} (hx : Byts xs) (hc : 0 ≤ c ∧ c ≤ 255) : Byts (turnL c xs i) := by
  intro x h
  rcases List.mem_append.1 h with h | h
  · obtain ⟨y, hy, rfl⟩ := List.mem_map.1 h
    exact xor_byt (hx y (List.mem_of_mem_take hy)) hc
  · exact hx x (List.mem_of_mem_drop h)
theorem turnL_zero (c : Int) (xs : List Int) : turnL c xs 0 = xs := rfl
/-- A part of a row, at its beginning. -/
theorem Rd.pre {X : Type} {E : Elem X} {w : World} {g n c : Nat} {xs : List X} (h : Rd E w (.slice (some ⟨g, 0, none⟩) xs.length c) xs) (hn : n ≤ xs.length) : Rd E w (.slice (some ⟨g, 0, none⟩) n c) (xs.take n) := by
  obtain ⟨a, cc, e, h1, h2, h3⟩ := h
  injection e with e1 e2 e3
  subst e1 e3
  refine ⟨_, _, by rw [List.length_take, Nat.min_eq_left hn], by rw [List.length_take]; omega, h2, ?_⟩
  rcases h3 with h3 | ⟨g', o, e, h3⟩
  · exact .inl (by rw [h3]; simp)
  · refine .inr ⟨g', o, e, fun i p hi j u hj => h3 i p ?_ j u hj⟩
    rw [List.getElem?_take] at hi
    split at hi
    · exact hi
    · cases hi
theorem Makes.shape {X : Type} {E : Elem X} {T : Nat} {P : Program} {f : FuncId} {vs : List Value} {w : World} {xs : List X} (h : Makes P f vs w (fun u M => M = [RowV E T u xs])) :
    Makes P f vs w (fun u M => ∃ a c, u = .slice a xs.length c ∧ M = [RowV E T u xs]) :=
  Calls.mono h (fun _ _ ⟨v, M, e, hM, hst⟩ => by
    subst hM
    obtain ⟨a, c, e2, _⟩ := hst.rdRowV .head
    exact ⟨v, _, e, ⟨a, c, e2, rfl⟩, hst⟩)
set_option maxHeartbeats 4000000 in
theorem turned_spec (gf cf lb gd cd ld : Nat) (k x s : Int) (xf xd : List Int) (hb : lb ≤ xf.length) (hd : ld ≤ xd.length) (hby : Byts xd) (hs : 0 ≤ s ∧ s ≤ 18446744073709551615) (hl : xf.length + xd.length ≤ 140737488350000) (hcf : xf.length ≤ cf) (hcd : xd.length ≤ cd) :
    Spec Tryd.prog 16 [.slice (some ⟨gf, 0, none⟩) lb cf, .agg #[.int .i64 k, .int .i64 x, .int .u64 s, .slice (some ⟨gd, 0, none⟩) ld cd], .slice (some ⟨gd, 0, none⟩) xd.length cd] [Row byteE 5 gf cf xf, Row byteE 5 gd cd xd] (fun u M => u = .bool true ∧ M = []) := by
  refine spec_of Tryd.func16 rfl rfl (Nat.le_of_ble_eq_true rfl) (fun w F => ?_)
  obtain ⟨t, ht⟩ : ∃ t : ItM, t = ⟨k, x, s, ⟨some ⟨gd, 0, none⟩, ld, cd⟩⟩ := ⟨_, rfl⟩
  have htv : t.v = .agg #[.int .i64 k, .int .i64 x, .int .u64 s, .slice (some ⟨gd, 0, none⟩) ld cd] := by rw [ht]; rfl
  (refine hc_seq ?_; refine hc_lex ?_; refine hx_plain rfl ?_; (refine h_box rfl rfl rfl rfl rfl rfl (fun _ => ?_)); refine hx_plain rfl ?_; refine h_assign rfl rfl rfl rfl ?_; refine hx_nil ?_; refine hq_then ?_; refine hc_seq ?_; refine hc_seq ?_; refine hc_lex ?_; refine hx_plain rfl ?_; refine h_assign rfl rfl rfl rfl ?_; refine hx_nil ?_; refine hq_then ?_; refine hc_block ?_)
  rename_i bx
  refine hc_cut (id := 0) (Y := Unit) (fun _ => [(0, .slice (some ⟨gf, 0, none⟩) lb cf), (2, .slice (some ⟨gd, 0, none⟩) xd.length cd), (4, .pointer (some ⟨bx, 0, none⟩))]) (fun _ => [Row byteE 5 gf cf (turnL 90 xf lb), Row byteE 5 gd cd xd, Blk bx (.cells #[.int .i64 k, .int .i64 x, .int .u64 s, .slice (some ⟨gd, 0, none⟩) ld cd] 28 (0, 0))]) (fun _ => True) ?_ ?_
  · refine hc_loop (X := Nat) (fun i => [(0, .slice (some ⟨gf, 0, none⟩) lb cf), (2, .slice (some ⟨gd, 0, none⟩) xd.length cd), (4, .pointer (some ⟨bx, 0, none⟩)), (7, .int .i64 (i : Int))]) (fun i => [Row byteE 5 gf cf (turnL 90 xf i), Row byteE 5 gd cd xd, Blk bx (.cells #[.int .i64 k, .int .i64 x, .int .u64 s, .slice (some ⟨gd, 0, none⟩) ld cd] 28 (0, 0))]) (fun i => i ≤ lb) (fun i => lb - i) 0 (.cons rfl (.cons rfl (.cons rfl (.cons rfl .nil)))) (Nat.zero_le _) (fun _ h => h.sub (.cons (.tail .head) (.cons (.tail .head) (.cons .head .nil)))) ?_
    intro i hi
    by_cases hlt : i < lb
    · have hlx : i < xf.length := by omega
      have e1 := turnL_get (c := 90) hlx
      have hlen := turnL_len 90 xf i
      (refine hc_seq ?_; refine hc_seq ?_; refine hc_lex ?_; refine hx_plain rfl ?_; refine h_move rfl rfl rfl rfl ?_; refine hx_plain rfl ?_; refine h_move rfl rfl rfl rfl ?_; refine hx_plain rfl ?_; refine h_len_slice rfl rfl rfl UC.out rfl rfl rfl ?_; refine hx_plain rfl ?_; refine h_cmp rfl rfl rfl rfl rfl rfl ?_; refine hx_nil ?_; refine hq_then ?_; refine hc_condDT rfl (by omega) ?_; refine hc_skip ?_; refine hq_then ?_; refine hc_seq ?_; refine hc_block ?_; refine hc_lex ?_; refine hx_plain rfl ?_; refine h_move rfl rfl rfl rfl ?_; refine hx_plain rfl ?_; refine h_move rfl rfl rfl rfl ?_; refine hx_plain rfl ?_; refine h_move rfl rfl rfl rfl ?_; refine hx_plain rfl ?_; refine h_move rfl rfl rfl rfl ?_; refine hx_plain rfl ?_; refine h_rowAddr rfl rfl rfl UC.out IC.size (by omega) (by omega) rfl rfl ?_; refine hx_plain rfl ?_; refine h_rowLoad1 rfl .head rfl UC.out rfl (by with_reducible assumption) rfl rfl rfl ?_; refine hx_plain rfl ?_; refine h_bits rfl rfl rfl rfl rfl rfl ?_; refine hx_plain rfl ?_; refine h_rowAddr rfl rfl rfl UC.out IC.size (by omega) (by omega) rfl rfl ?_; refine hx_plain rfl ?_)
      refine h_rowStoreN (i := i) (z := bits .xor .u8 xf[i] 90) rfl rfl rfl .head rfl rfl rfl IC.size e1 rfl rfl ?_
      (refine hx_nil ?_; refine hq_norm_block ?_; refine hq_then ?_; refine hc_lex ?_; refine hx_plain rfl ?_; refine h_move rfl rfl rfl rfl ?_; refine hx_plain rfl ?_; refine h_arithI rfl rfl rfl rfl (by omega) rfl rfl ?_; refine hx_plain rfl ?_; refine h_assign rfl rfl rfl rfl ?_; refine hx_nil ?_)
      refine hq_round (i + 1) (by omega) (by omega) (.cons rfl (.cons rfl (.cons rfl (.cons rfl .nil)))) (fun _ h => ?_)
      rw [← turnL_set hlx]
      exact h
    · obtain rfl : i = lb := by omega
      (refine hc_seq ?_; refine hc_seq ?_; refine hc_lex ?_; refine hx_plain rfl ?_; refine h_move rfl rfl rfl rfl ?_; refine hx_plain rfl ?_; refine h_move rfl rfl rfl rfl ?_; refine hx_plain rfl ?_; refine h_len_slice rfl rfl rfl UC.out rfl rfl rfl ?_; refine hx_plain rfl ?_; refine h_cmp rfl rfl rfl rfl rfl rfl ?_; refine hx_nil ?_; refine hq_then ?_; refine hc_condDF rfl (by omega) ?_; refine hc_exit ?_; refine hq_exit_then ?_; refine hq_exit_then ?_)
      exact hq_cut () trivial (.cons rfl (.cons rfl (.cons rfl .nil))) (fun _ h => h)
  rintro ⟨⟩ _
  (refine hq_exit_block ?_; refine hq_then ?_; refine hc_seq ?_; refine hc_seq ?_; refine hc_lex ?_; refine hx_plain rfl ?_; refine h_assign rfl rfl rfl rfl ?_; refine hx_nil ?_; refine hq_then ?_; refine hc_block ?_)
  refine hc_cut (id := 2) (Y := Unit) (fun _ => [(0, .slice (some ⟨gf, 0, none⟩) lb cf), (4, .pointer (some ⟨bx, 0, none⟩))]) (fun _ => [Row byteE 5 gf cf (turnL 90 xf lb), Row byteE 5 gd cd (turnL 51 xd xd.length), Blk bx (.cells #[.int .i64 k, .int .i64 x, .int .u64 s, .slice (some ⟨gd, 0, none⟩) ld cd] 28 (0, 0))]) (fun _ => True) ?_ ?_
  · refine hc_loop (X := Nat) (fun i => [(0, .slice (some ⟨gf, 0, none⟩) lb cf), (2, .slice (some ⟨gd, 0, none⟩) xd.length cd), (4, .pointer (some ⟨bx, 0, none⟩)), (8, .int .i64 (i : Int))]) (fun i => [Row byteE 5 gf cf (turnL 90 xf lb), Row byteE 5 gd cd (turnL 51 xd i), Blk bx (.cells #[.int .i64 k, .int .i64 x, .int .u64 s, .slice (some ⟨gd, 0, none⟩) ld cd] 28 (0, 0))]) (fun i => i ≤ xd.length) (fun i => xd.length - i) 0 (.cons rfl (.cons rfl (.cons rfl (.cons rfl .nil)))) (Nat.zero_le _) (fun _ h => h) ?_
    intro i hi
    by_cases hlt : i < xd.length
    · have e1 := turnL_get (c := 51) hlt
      have hlen := turnL_len 51 xd i
      (refine hc_seq ?_; refine hc_seq ?_; refine hc_lex ?_; refine hx_plain rfl ?_; refine h_move rfl rfl rfl rfl ?_; refine hx_plain rfl ?_; refine h_move rfl rfl rfl rfl ?_; refine hx_plain rfl ?_; refine h_len_slice rfl rfl rfl UC.out rfl rfl rfl ?_; refine hx_plain rfl ?_; refine h_cmp rfl rfl rfl rfl rfl rfl ?_; refine hx_nil ?_; refine hq_then ?_; refine hc_condDT rfl (by omega) ?_; refine hc_skip ?_; refine hq_then ?_; refine hc_seq ?_; refine hc_block ?_; refine hc_lex ?_; refine hx_plain rfl ?_; refine h_move rfl rfl rfl rfl ?_; refine hx_plain rfl ?_; refine h_move rfl rfl rfl rfl ?_; refine hx_plain rfl ?_; refine h_move rfl rfl rfl rfl ?_; refine hx_plain rfl ?_; refine h_move rfl rfl rfl rfl ?_; refine hx_plain rfl ?_; refine h_rowAddr rfl rfl rfl UC.out IC.size (by omega) (by omega) rfl rfl ?_; refine hx_plain rfl ?_; refine h_rowLoad1 rfl (.tail .head) rfl UC.out rfl (by with_reducible assumption) rfl rfl rfl ?_; refine hx_plain rfl ?_; refine h_bits rfl rfl rfl rfl rfl rfl ?_; refine hx_plain rfl ?_; refine h_rowAddr rfl rfl rfl UC.out IC.size (by omega) (by omega) rfl rfl ?_; refine hx_plain rfl ?_)
      refine h_rowStoreN (i := i) (z := bits .xor .u8 xd[i] 51) rfl rfl rfl (.tail .head) rfl rfl rfl IC.size e1 rfl rfl ?_
      (refine hx_nil ?_; refine hq_norm_block ?_; refine hq_then ?_; refine hc_lex ?_; refine hx_plain rfl ?_; refine h_move rfl rfl rfl rfl ?_; refine hx_plain rfl ?_; refine h_arithI rfl rfl rfl rfl (by omega) rfl rfl ?_; refine hx_plain rfl ?_; refine h_assign rfl rfl rfl rfl ?_; refine hx_nil ?_)
      refine hq_round (i + 1) (by omega) (by omega) (.cons rfl (.cons rfl (.cons rfl (.cons rfl .nil)))) (fun _ h => ?_)
      rw [← turnL_set hlt]
      exact h.sub (.cons (.tail .head) (.cons .head (.cons .head .nil)))
    · obtain rfl : i = xd.length := by omega
      (refine hc_seq ?_; refine hc_seq ?_; refine hc_lex ?_; refine hx_plain rfl ?_; refine h_move rfl rfl rfl rfl ?_; refine hx_plain rfl ?_; refine h_move rfl rfl rfl rfl ?_; refine hx_plain rfl ?_; refine h_len_slice rfl rfl rfl UC.out rfl rfl rfl ?_; refine hx_plain rfl ?_; refine h_cmp rfl rfl rfl rfl rfl rfl ?_; refine hx_nil ?_; refine hq_then ?_; refine hc_condDF rfl (by omega) ?_; refine hc_exit ?_; refine hq_exit_then ?_; refine hq_exit_then ?_)
      exact hq_cut () trivial (.cons rfl (.cons rfl .nil)) (fun _ h => h)
  rintro ⟨⟩ _
  have lf := turnL_len 90 xf lb
  have ldd := turnL_len 51 xd xd.length
  have hby2 : Byts ((turnL 51 xd xd.length).take ld) := fun z hz => turnL_byts hby (by decide) z (List.mem_of_mem_take hz)
  obtain ⟨xf', hxf⟩ : ∃ y, turnL 90 xf lb = y := ⟨_, rfl⟩
  obtain ⟨xd', hxd⟩ : ∃ y, turnL 51 xd xd.length = y := ⟨_, rfl⟩
  rw [hxf] at lf ⊢
  rw [hxd] at ldd hby2 ⊢
  have tlf : (xf'.take lb).length = lb := by rw [List.length_take]; omega
  have tld : (xd'.take ld).length = ld := by rw [List.length_take]; omega
  (refine hq_exit_block ?_; refine hq_then ?_; refine hc_seq ?_; refine hc_lex ?_; refine hx_plain rfl ?_; refine h_loadP rfl rfl UC.out rfl IC.size (.tail (.tail .head)) rfl rfl rfl rfl ?_; refine hx_plain rfl ?_; (refine h_alloc rfl rfl IC.zero rfl rfl rfl (fun _ => ?_)); refine hx_plain rfl ?_; refine h_storeAll rfl rfl rfl rfl rfl rfl IC.size .head rfl rfl rfl (List.all_eq_true.1 rfl) ?_; refine hx_nil ?_; refine hq_then ?_; refine hc_seq ?_; refine hc_lex ?_; refine hx_plain rfl ?_; refine h_fieldAddr0 rfl rfl FC.out rfl rfl ?_; refine hx_plain rfl ?_; refine h_load rfl rfl UC.out rfl (.tail (.tail (.tail .head))) rfl rfl rfl ?_; refine hx_plain rfl ?_)
  rename_i by_ _
  have rd1 : ∀ w' L F0 w0 L', St w0 F0 L w' → Pull L (Row byteE 5 gd cd xd') L' → Rd byteE w' (.slice (some ⟨gd, 0, none⟩) ld cd) (xd'.take ld) := fun w' L F0 w0 L' h hp => (h.rdRow hp).pre (by omega)
  have rd2 : ∀ w' L F0 w0 L', St w0 F0 L w' → Pull L (Row byteE 5 gf cf xf') L' → Rd byteE w' (.slice (some ⟨gf, 0, none⟩) lb cf) (xf'.take lb) := fun w' L F0 w0 L' h hp => (h.rdRow hp).pre (by omega)
  refine h_callW (post := fun u M => ∃ a c, u = .slice a (xd'.take ld).length c ∧ M = [RowV byteE 5 u (xd'.take ld)]) rfl rfl rfl rfl rfl rfl rfl rfl EC.out (fun w' h => (bytes_makes (rd1 _ _ _ _ _ h (.tail (.tail .head))) (by omega)).shape) ?_
  rintro vy M ⟨ay, cy, rfl, rfl⟩
  (refine hx_plain rfl ?_; refine h_fieldAddr0 rfl rfl FC.out rfl rfl ?_; refine hx_plain rfl ?_; refine h_store1 rfl rfl rfl rfl rfl rfl IC.size (.tail .head) rfl rfl rfl ?_; refine hx_nil ?_; refine hq_then ?_; refine hc_seq ?_)
  rename_i y0
  have hB : ∀ w' L F0 w0 L', St w0 F0 L w' → Pull L (Row byteE 5 gf cf xf') L' → Makes Tryd.prog 11 [.slice (some ⟨gf, 0, none⟩) lb cf] w' (fun u M => M = [RowV byteE 5 u (xf'.take lb)]) := fun w' L F0 w0 L' h hp => bytes_makes (rd2 _ _ _ _ _ h hp) (by omega)
  refine hc_drawE (D := fun x' => St w F [Blk y0 (.cells #[.int .i64 k, .int .i64 x, .int .u64 s, .slice ay (xd'.take ld).length cy] 28 (0, 0)), Row byteE 5 gf cf xf', Row byteE 5 gd cd xd', Blk bx (.cells #[.int .i64 k, .int .i64 x, .int .u64 s, .slice (some ⟨gd, 0, none⟩) ld cd] 28 (0, 0))] x') (fun i => i == 2 || i == 4 || i == 6 || i == 7) [0, 1, 3, 5] [2, 4, 6, 7, 8] (by kernel_rfl) (by kernel_rfl) rfl (fun x h => h.sub (.cons .head (.cons (.tail .head) (.cons (.tail .head) (.cons (.tail .head) .nil))))) rfl ?_
  (refine hx_plain rfl ?_; refine h_move rfl rfl rfl rfl ?_; refine hx_plain rfl ?_; refine h_loadP rfl rfl UC.out rfl IC.size (.tail (.tail (.tail .head))) rfl rfl rfl rfl ?_; refine hx_plain rfl ?_; refine h_move rfl rfl rfl rfl ?_; refine hx_plain rfl ?_; refine h_loadP rfl rfl UC.out rfl IC.size .head rfl rfl rfl rfl ?_; refine hx_nil ?_)
  refine hd_callW (post := fun u M => M = [RowV byteE 5 u (xf'.take lb ++ itB ⟨k, x, s, ⟨none, 0, 0⟩⟩ (xd'.take ld))]) rfl rfl rfl rfl rfl rfl rfl rfl EC.out (fun w' h => put_makes ⟨k, x, s, ⟨some ⟨gd, 0, none⟩, ld, cd⟩⟩ (rd2 _ _ _ _ _ h (.tail (.tail .head))) (rd1 _ _ _ _ _ h (.tail (.tail (.tail .head)))) hby2 (by omega)) (fun v M hM x h => by subst hM; exact h.sub (.cons (.tail .head) (.cons (.tail (.tail .head)) (.cons (.tail (.tail .head)) (.cons (.tail (.tail .head)) .nil))))) ?_
  rintro u1 M rfl
  refine hd_callW (post := fun u M => M = [RowV byteE 5 u (xf'.take lb)]) rfl rfl rfl rfl rfl rfl rfl rfl EC.out (fun w' h => hB _ _ _ _ _ h (.tail (.tail (.tail .head)))) (fun v M hM x h => by subst hM; exact h.sub (.cons (.tail (.tail .head)) (.cons (.tail (.tail (.tail .head))) (.cons (.tail (.tail (.tail .head))) (.cons (.tail (.tail (.tail .head))) .nil))))) ?_
  rintro u2 M rfl
  refine hd_callW (post := fun u M => M = [RowV byteE 5 u (xf'.take lb ++ itB ⟨k, x, s, ⟨none, 0, 0⟩⟩ (xd'.take ld))]) rfl rfl rfl rfl rfl rfl rfl rfl EC.out (fun w' h => want_makes ⟨k, x, s, ⟨ay, (xd'.take ld).length, cy⟩⟩ hs (h.rdRowV .head) (h.rdRowV (.tail (.tail (.tail .head)))) hby2 (by omega)) (fun v M hM x h => by subst hM; exact h.sub (.cons (.tail (.tail (.tail .head))) (.cons (.tail (.tail (.tail (.tail .head)))) (.cons (.tail (.tail (.tail (.tail .head)))) (.cons (.tail (.tail (.tail (.tail .head)))) .nil))))) ?_
  rintro u3 M rfl
  refine hd_callRd rfl rfl rfl rfl rfl rfl rfl rfl EC.out (fun w' h => sameBytes (h.rdRowV (.tail (.tail .head))) (h.rdRowV .head)) (fun x h => h.sub (.cons (.tail (.tail (.tail .head))) (.cons (.tail (.tail (.tail (.tail .head)))) (.cons (.tail (.tail (.tail (.tail .head)))) (.cons (.tail (.tail (.tail (.tail .head)))) .nil))))) ?_
  rw [decide_eq_true rfl]
  refine hd_end _ rfl ?_
  (refine hx_plain rfl ?_; refine h_assign rfl rfl rfl rfl ?_; refine hx_nil ?_)
  refine hd_nil ?_
  (refine hq_then ?_; refine hc_ret ?_)
  exact hq_ret1 (.inr rfl) rfl rfl ⟨rfl, rfl⟩ (fun _ h => h.emp)
end Go.Proofs.YtjnnlfeohbidhaaDoor
