import Derived.Test.YtbelfaoolnijiaaEngA
import Derived.Test.YtbelfaoolnijiaaProg
namespace Go.Proofs.Ytbelfaoolnijiaa
open Go Go.Proofs
set_option maxRecDepth 20000
theorem i_of {P : Program} {t s b : Nat} {z : Value} (h1 : (P.info? t).map (fun i => (i.size, i.bytes, i.zero)) = some (s, b, some z)) : ∃ i, P.info? t = some i ∧ i.size = s ∧ i.bytes = b ∧ i.zero = some z := by
  simp only [Option.map_eq_some_iff, Prod.mk.injEq] at h1
  obtain ⟨j, h3, h4, h5, h6⟩ := h1
  exact ⟨j, h3, h4, h5, h6⟩
instance u9 : UC Try.prog 9 (Go.TypeDesc.string) := ⟨Try.underlying9⟩
instance i9 : IC Try.prog 9 1 16 (.string ByteArray.empty) := ⟨i_of (by kernel_rfl)⟩
instance u3 : UC Try.prog 3 (Go.TypeDesc.int Go.IntKind.i64) := ⟨Try.underlying3⟩
instance i3 : IC Try.prog 3 1 8 (.int .i64 0) := ⟨i_of (by kernel_rfl)⟩
instance u22 : UC Try.prog 22 (Go.TypeDesc.slice 9) := ⟨Try.underlying22⟩
instance i22 : IC Try.prog 22 1 24 (.slice none 0 0) := ⟨i_of (by kernel_rfl)⟩
instance u1 : UC Try.prog 1 (Go.TypeDesc.func #[] #[] Bool.false) := ⟨Try.underlying1⟩
instance i1 : IC Try.prog 1 1 8 (.nilFunc) := ⟨i_of (by kernel_rfl)⟩
instance u24 : UC Try.prog 24 (Go.TypeDesc.int Go.IntKind.i64) := ⟨Try.underlying24⟩
instance i24 : IC Try.prog 24 1 8 (.int .i64 0) := ⟨i_of (by kernel_rfl)⟩
instance u39 : UC Try.prog 39 (Go.TypeDesc.slice 5) := ⟨Try.underlying39⟩
instance i39 : IC Try.prog 39 1 24 (.slice none 0 0) := ⟨i_of (by kernel_rfl)⟩
instance u4 : UC Try.prog 4 (Go.TypeDesc.bool) := ⟨Try.underlying4⟩
instance i4 : IC Try.prog 4 1 1 (.bool false) := ⟨i_of (by kernel_rfl)⟩
instance u5 : UC Try.prog 5 (Go.TypeDesc.int Go.IntKind.u8) := ⟨Try.underlying5⟩
instance i5 : IC Try.prog 5 1 1 (.int .u8 0) := ⟨i_of (by kernel_rfl)⟩
instance u65 : UC Try.prog 65 (Go.TypeDesc.struct #[{ name := "addr", type := 63, offset := 0, embedded := Bool.false, tag := "", pkgPath := "strings", byteOffset := 0 }, { name := "buf", type := 39, offset := 1, embedded := Bool.false, tag := "", pkgPath := "strings", byteOffset := 8 }]) := ⟨Try.underlying65⟩
instance i65 : IC Try.prog 65 2 32 (.agg #[.pointer none, .slice none 0 0]) := ⟨i_of (by kernel_rfl)⟩
instance u47 : UC Try.prog 47 (Go.TypeDesc.func #[9, 9] #[9, 24] Bool.false) := ⟨Try.underlying47⟩
instance i47 : IC Try.prog 47 1 8 (.nilFunc) := ⟨i_of (by kernel_rfl)⟩
instance u63 : UC Try.prog 63 (Go.TypeDesc.pointer 65) := ⟨Try.underlying63⟩
instance i63 : IC Try.prog 63 1 8 (.pointer none) := ⟨i_of (by kernel_rfl)⟩
instance u43 : UC Try.prog 43 (Go.TypeDesc.slice 22) := ⟨Try.underlying43⟩
instance i43 : IC Try.prog 43 1 24 (.slice none 0 0) := ⟨i_of (by kernel_rfl)⟩
instance u32 : UC Try.prog 32 (Go.TypeDesc.func #[9] #[22, 3] Bool.false) := ⟨Try.underlying32⟩
instance i32 : IC Try.prog 32 1 8 (.nilFunc) := ⟨i_of (by kernel_rfl)⟩
instance u2 : UC Try.prog 2 (Go.TypeDesc.int Go.IntKind.i64) := ⟨Try.underlying2⟩
instance i2 : IC Try.prog 2 1 8 (.int .i64 0) := ⟨i_of (by kernel_rfl)⟩
instance u46 : UC Try.prog 46 (Go.TypeDesc.func #[22, 9] #[] Bool.false) := ⟨Try.underlying46⟩
instance i46 : IC Try.prog 46 1 8 (.nilFunc) := ⟨i_of (by kernel_rfl)⟩
instance u45 : UC Try.prog 45 (Go.TypeDesc.struct #[{ name := "lists", type := 43, offset := 0, embedded := Bool.false, tag := "", pkgPath := "annex/annexlaw3", byteOffset := 0 }, { name := "marks", type := 22, offset := 1, embedded := Bool.false, tag := "", pkgPath := "annex/annexlaw3", byteOffset := 24 }]) := ⟨Try.underlying45⟩
instance i45 : IC Try.prog 45 2 48 (.agg #[.slice none 0 0, .slice none 0 0]) := ⟨i_of (by kernel_rfl)⟩
instance u42 : UC Try.prog 42 (Go.TypeDesc.pointer 45) := ⟨Try.underlying42⟩
instance i42 : IC Try.prog 42 1 8 (.pointer none) := ⟨i_of (by kernel_rfl)⟩
instance u16 : UC Try.prog 16 (Go.TypeDesc.pointer 80) := ⟨Try.underlying16⟩
instance i16 : IC Try.prog 16 1 8 (.pointer none) := ⟨i_of (by kernel_rfl)⟩
instance u33 : UC Try.prog 33 (Go.TypeDesc.func #[22, 22] #[4] Bool.false) := ⟨Try.underlying33⟩
instance i33 : IC Try.prog 33 1 8 (.nilFunc) := ⟨i_of (by kernel_rfl)⟩
instance u21 : UC Try.prog 21 (Go.TypeDesc.int Go.IntKind.i32) := ⟨Try.underlying21⟩
instance i21 : IC Try.prog 21 1 4 (.int .i32 0) := ⟨i_of (by kernel_rfl)⟩
instance u73 : UC Try.prog 73 (Go.TypeDesc.unsafePointer) := ⟨Try.underlying73⟩
instance i73 : IC Try.prog 73 1 8 (.pointer none) := ⟨i_of (by kernel_rfl)⟩
instance u23 : UC Try.prog 23 (Go.TypeDesc.func #[] #[4] Bool.false) := ⟨Try.underlying23⟩
instance i23 : IC Try.prog 23 1 8 (.nilFunc) := ⟨i_of (by kernel_rfl)⟩
instance u34 : UC Try.prog 34 (Go.TypeDesc.func #[22] #[22] Bool.false) := ⟨Try.underlying34⟩
instance i34 : IC Try.prog 34 1 8 (.nilFunc) := ⟨i_of (by kernel_rfl)⟩
instance u58 : UC Try.prog 58 (Go.TypeDesc.func #[9] #[57] Bool.false) := ⟨Try.underlying58⟩
instance i58 : IC Try.prog 58 1 8 (.nilFunc) := ⟨i_of (by kernel_rfl)⟩
instance u20 : UC Try.prog 20 (Go.TypeDesc.interface #[]) := ⟨Try.underlying20⟩
instance i20 : IC Try.prog 20 1 16 (.nilIface) := ⟨i_of (by kernel_rfl)⟩
instance u74 : UC Try.prog 74 (Go.TypeDesc.func #[73] #[73] Bool.false) := ⟨Try.underlying74⟩
instance i74 : IC Try.prog 74 1 8 (.nilFunc) := ⟨i_of (by kernel_rfl)⟩
instance u72 : UC Try.prog 72 (Go.TypeDesc.pointer 5) := ⟨Try.underlying72⟩
instance i72 : IC Try.prog 72 1 8 (.pointer none) := ⟨i_of (by kernel_rfl)⟩
instance u40 : UC Try.prog 40 (Go.TypeDesc.func #[22, 9] #[4] Bool.false) := ⟨Try.underlying40⟩
instance i40 : IC Try.prog 40 1 8 (.nilFunc) := ⟨i_of (by kernel_rfl)⟩
instance u70 : UC Try.prog 70 (Go.TypeDesc.func #[9] #[3, 68] Bool.false) := ⟨Try.underlying70⟩
instance i70 : IC Try.prog 70 1 8 (.nilFunc) := ⟨i_of (by kernel_rfl)⟩
instance u66 : UC Try.prog 66 (Go.TypeDesc.func #[3] #[] Bool.false) := ⟨Try.underlying66⟩
instance i66 : IC Try.prog 66 1 8 (.nilFunc) := ⟨i_of (by kernel_rfl)⟩
instance u71 : UC Try.prog 71 (Go.TypeDesc.func #[] #[9] Bool.false) := ⟨Try.underlying71⟩
instance i71 : IC Try.prog 71 1 8 (.nilFunc) := ⟨i_of (by kernel_rfl)⟩
instance f65_1 : FC Try.prog 65 1 1 39 := ⟨⟨_, _, Try.underlying65, rfl, rfl, rfl, _, IC.size, (by decide)⟩⟩
instance f45_0 : FC Try.prog 45 0 0 43 := ⟨⟨_, _, Try.underlying45, rfl, rfl, rfl, _, IC.size, (by decide)⟩⟩
instance f45_1 : FC Try.prog 45 1 1 22 := ⟨⟨_, _, Try.underlying45, rfl, rfl, rfl, _, IC.size, (by decide)⟩⟩
instance f65_0 : FC Try.prog 65 0 0 63 := ⟨⟨_, _, Try.underlying65, rfl, rfl, rfl, _, IC.size, (by decide)⟩⟩
instance b65 : BC Try.prog 65 [(0, 1), (1, 1)] [.pointer none, .slice none 0 0] := ⟨⟨_, _, Try.underlying65, IC.zero, rfl, rfl, fun i f h => by
    match i, h with
    | 0, h => cases h; exact ⟨_, _, rfl, rfl, IC.size⟩
    | 1, h => cases h; exact ⟨_, _, rfl, rfl, IC.size⟩
    | _ + 2, h => cases h⟩⟩
instance b45 : BC Try.prog 45 [(0, 1), (1, 1)] [.slice none 0 0, .slice none 0 0] := ⟨⟨_, _, Try.underlying45, IC.zero, rfl, rfl, fun i f h => by
    match i, h with
    | 0, h => cases h; exact ⟨_, _, rfl, rfl, IC.size⟩
    | 1, h => cases h; exact ⟨_, _, rfl, rfl, IC.size⟩
    | _ + 2, h => cases h⟩⟩
instance e3 : EC Try.prog 3 := ⟨Enters.mk Try.func3 (by kernel_rfl) (by kernel_rfl)⟩
instance e4 : EC Try.prog 4 := ⟨Enters.mk Try.func4 (by kernel_rfl) (by kernel_rfl)⟩
instance e5 : EC Try.prog 5 := ⟨Enters.mk Try.func5 (by kernel_rfl) (by kernel_rfl)⟩
instance e6 : EC Try.prog 6 := ⟨Enters.mk Try.func6 (by kernel_rfl) (by kernel_rfl)⟩
instance e7 : EC Try.prog 7 := ⟨Enters.mk Try.func7 (by kernel_rfl) (by kernel_rfl)⟩
instance e8 : EC Try.prog 8 := ⟨Enters.mk Try.func8 (by kernel_rfl) (by kernel_rfl)⟩
instance e9 : EC Try.prog 9 := ⟨Enters.mk Try.func9 (by kernel_rfl) (by kernel_rfl)⟩
instance e10 : EC Try.prog 10 := ⟨Enters.mk Try.func10 (by kernel_rfl) (by kernel_rfl)⟩
instance e11 : EC Try.prog 11 := ⟨Enters.mk Try.func11 (by kernel_rfl) (by kernel_rfl)⟩
instance e12 : EC Try.prog 12 := ⟨Enters.mk Try.func12 (by kernel_rfl) (by kernel_rfl)⟩
instance e13 : EC Try.prog 13 := ⟨Enters.mk Try.func13 (by kernel_rfl) (by kernel_rfl)⟩
instance e14 : EC Try.prog 14 := ⟨Enters.mk Try.func14 (by kernel_rfl) (by kernel_rfl)⟩
instance e15 : EC Try.prog 15 := ⟨Enters.mk Try.func15 (by kernel_rfl) (by kernel_rfl)⟩
instance e16 : EC Try.prog 16 := ⟨Enters.mk Try.func16 (by kernel_rfl) (by kernel_rfl)⟩
instance e17 : EC Try.prog 17 := ⟨Enters.mk Try.func17 (by kernel_rfl) (by kernel_rfl)⟩
instance e18 : EC Try.prog 18 := ⟨Enters.mk Try.func18 (by kernel_rfl) (by kernel_rfl)⟩
instance e19 : EC Try.prog 19 := ⟨Enters.mk Try.func19 (by kernel_rfl) (by kernel_rfl)⟩
instance e20 : EC Try.prog 20 := ⟨Enters.mk Try.func20 (by kernel_rfl) (by kernel_rfl)⟩
instance e21 : EC Try.prog 21 := ⟨Enters.mk Try.func21 (by kernel_rfl) (by kernel_rfl)⟩
instance e22 : EC Try.prog 22 := ⟨Enters.mk Try.func22 (by kernel_rfl) (by kernel_rfl)⟩
instance e23 : EC Try.prog 23 := ⟨Enters.mk Try.func23 (by kernel_rfl) (by kernel_rfl)⟩
instance e24 : EC Try.prog 24 := ⟨Enters.mk Try.func24 (by kernel_rfl) (by kernel_rfl)⟩
instance e25 : EC Try.prog 25 := ⟨Enters.mk Try.func25 (by kernel_rfl) (by kernel_rfl)⟩
instance e26 : EC Try.prog 26 := ⟨Enters.mk Try.func26 (by kernel_rfl) (by kernel_rfl)⟩
instance e27 : EC Try.prog 27 := ⟨Enters.mk Try.func27 (by kernel_rfl) (by kernel_rfl)⟩
instance e28 : EC Try.prog 28 := ⟨Enters.mk Try.func28 (by kernel_rfl) (by kernel_rfl)⟩
instance e29 : EC Try.prog 29 := ⟨Enters.mk Try.func29 (by kernel_rfl) (by kernel_rfl)⟩
instance e30 : EC Try.prog 30 := ⟨Enters.mk Try.func30 (by kernel_rfl) (by kernel_rfl)⟩
instance e31 : EC Try.prog 31 := ⟨Enters.mk Try.func31 (by kernel_rfl) (by kernel_rfl)⟩
instance e32 : EC Try.prog 32 := ⟨Enters.mk Try.func32 (by kernel_rfl) (by kernel_rfl)⟩
instance e33 : EC Try.prog 33 := ⟨Enters.mk Try.func33 (by kernel_rfl) (by kernel_rfl)⟩
instance e34 : EC Try.prog 34 := ⟨Enters.mk Try.func34 (by kernel_rfl) (by kernel_rfl)⟩
instance e35 : EC Try.prog 35 := ⟨Enters.mk Try.func35 (by kernel_rfl) (by kernel_rfl)⟩
instance e36 : EC Try.prog 36 := ⟨Enters.mk Try.func36 (by kernel_rfl) (by kernel_rfl)⟩
instance e37 : EC Try.prog 37 := ⟨Enters.mk Try.func37 (by kernel_rfl) (by kernel_rfl)⟩
instance e38 : EC Try.prog 38 := ⟨Enters.mk Try.func38 (by kernel_rfl) (by kernel_rfl)⟩
instance e39 : EC Try.prog 39 := ⟨Enters.mk Try.func39 (by kernel_rfl) (by kernel_rfl)⟩
instance e40 : EC Try.prog 40 := ⟨Enters.mk Try.func40 (by kernel_rfl) (by kernel_rfl)⟩
instance e41 : EC Try.prog 41 := ⟨Enters.mk Try.func41 (by kernel_rfl) (by kernel_rfl)⟩
instance e42 : EC Try.prog 42 := ⟨Enters.mk Try.func42 (by kernel_rfl) (by kernel_rfl)⟩
end Go.Proofs.Ytbelfaoolnijiaa
