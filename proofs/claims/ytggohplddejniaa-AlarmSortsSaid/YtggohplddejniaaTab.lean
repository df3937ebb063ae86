import Derived.Test.YtggohplddejniaaEngA
import Derived.Test.YtggohplddejniaaProg
namespace Go.Proofs.Ytggohplddejniaa
open Go Go.Proofs
set_option maxRecDepth 20000
theorem i_of {P : Program} {t s b : Nat} {z : Value} (h1 : (P.info? t).map (fun i => (i.size, i.bytes, i.zero)) = some (s, b, some z)) : ∃ i, P.info? t = some i ∧ i.size = s ∧ i.bytes = b ∧ i.zero = some z := by
  simp only [Option.map_eq_some_iff, Prod.mk.injEq] at h1
  obtain ⟨j, h3, h4, h5, h6⟩ := h1
  exact ⟨j, h3, h4, h5, h6⟩
instance u3 : UC Try.prog 3 (Go.TypeDesc.int Go.IntKind.i64) := ⟨Try.underlying3⟩
instance i3 : IC Try.prog 3 1 8 (.int .i64 0) := ⟨i_of (by kernel_rfl)⟩
instance u1 : UC Try.prog 1 (Go.TypeDesc.func #[] #[] Bool.false) := ⟨Try.underlying1⟩
instance i1 : IC Try.prog 1 1 8 (.nilFunc) := ⟨i_of (by kernel_rfl)⟩
instance u24 : UC Try.prog 24 (Go.TypeDesc.pointer 85) := ⟨Try.underlying24⟩
instance i24 : IC Try.prog 24 1 8 (.pointer none) := ⟨i_of (by kernel_rfl)⟩
instance u29 : UC Try.prog 29 (Go.TypeDesc.slice 3) := ⟨Try.underlying29⟩
instance i29 : IC Try.prog 29 1 24 (.slice none 0 0) := ⟨i_of (by kernel_rfl)⟩
instance u58 : UC Try.prog 58 (Go.TypeDesc.struct #[{ name := "N", type := 3, offset := 0, embedded := Bool.false, tag := "", pkgPath := "", byteOffset := 0 }, { name := "Text", type := 9, offset := 1, embedded := Bool.false, tag := "", pkgPath := "", byteOffset := 8 }]) := ⟨Try.underlying58⟩
instance i58 : IC Try.prog 58 2 24 (.agg #[.int .i64 0, .string ByteArray.empty]) := ⟨i_of (by kernel_rfl)⟩
instance u22 : UC Try.prog 22 (Go.TypeDesc.slice 28) := ⟨Try.underlying22⟩
instance i22 : IC Try.prog 22 1 24 (.slice none 0 0) := ⟨i_of (by kernel_rfl)⟩
instance u83 : UC Try.prog 83 (Go.TypeDesc.slice 81) := ⟨Try.underlying83⟩
instance i83 : IC Try.prog 83 1 24 (.slice none 0 0) := ⟨i_of (by kernel_rfl)⟩
instance u96 : UC Try.prog 96 (Go.TypeDesc.slice 94) := ⟨Try.underlying96⟩
instance i96 : IC Try.prog 96 1 24 (.slice none 0 0) := ⟨i_of (by kernel_rfl)⟩
instance u117 : UC Try.prog 117 (Go.TypeDesc.slice 115) := ⟨Try.underlying117⟩
instance i117 : IC Try.prog 117 1 24 (.slice none 0 0) := ⟨i_of (by kernel_rfl)⟩
instance u81 : UC Try.prog 81 (Go.TypeDesc.struct #[{ name := "k", type := 3, offset := 0, embedded := Bool.false, tag := "", pkgPath := "annex/alarm", byteOffset := 0 }, { name := "at", type := 3, offset := 1, embedded := Bool.false, tag := "", pkgPath := "annex/alarm", byteOffset := 8 }]) := ⟨Try.underlying81⟩
instance i81 : IC Try.prog 81 2 16 (.agg #[.int .i64 0, .int .i64 0]) := ⟨i_of (by kernel_rfl)⟩
instance u94 : UC Try.prog 94 (Go.TypeDesc.struct #[{ name := "k", type := 9, offset := 0, embedded := Bool.false, tag := "", pkgPath := "annex/alarm", byteOffset := 0 }, { name := "at", type := 3, offset := 1, embedded := Bool.false, tag := "", pkgPath := "annex/alarm", byteOffset := 16 }]) := ⟨Try.underlying94⟩
instance i94 : IC Try.prog 94 2 24 (.agg #[.string ByteArray.empty, .int .i64 0]) := ⟨i_of (by kernel_rfl)⟩
instance u115 : UC Try.prog 115 (Go.TypeDesc.struct #[{ name := "k", type := 5, offset := 0, embedded := Bool.false, tag := "", pkgPath := "annex/alarm", byteOffset := 0 }, { name := "at", type := 3, offset := 1, embedded := Bool.false, tag := "", pkgPath := "annex/alarm", byteOffset := 8 }]) := ⟨Try.underlying115⟩
instance i115 : IC Try.prog 115 2 16 (.agg #[.int .u8 0, .int .i64 0]) := ⟨i_of (by kernel_rfl)⟩
instance u88 : UC Try.prog 88 (Go.TypeDesc.slice 102) := ⟨Try.underlying88⟩
instance i88 : IC Try.prog 88 1 24 (.slice none 0 0) := ⟨i_of (by kernel_rfl)⟩
instance u4 : UC Try.prog 4 (Go.TypeDesc.bool) := ⟨Try.underlying4⟩
instance i4 : IC Try.prog 4 1 1 (.bool false) := ⟨i_of (by kernel_rfl)⟩
instance u38 : UC Try.prog 38 (Go.TypeDesc.pointer 90) := ⟨Try.underlying38⟩
instance i38 : IC Try.prog 38 1 8 (.pointer none) := ⟨i_of (by kernel_rfl)⟩
instance u2 : UC Try.prog 2 (Go.TypeDesc.int Go.IntKind.i64) := ⟨Try.underlying2⟩
instance i2 : IC Try.prog 2 1 8 (.int .i64 0) := ⟨i_of (by kernel_rfl)⟩
instance u9 : UC Try.prog 9 (Go.TypeDesc.string) := ⟨Try.underlying9⟩
instance i9 : IC Try.prog 9 1 16 (.string ByteArray.empty) := ⟨i_of (by kernel_rfl)⟩
instance u85 : UC Try.prog 85 (Go.TypeDesc.struct #[{ name := "heap", type := 83, offset := 0, embedded := Bool.false, tag := "", pkgPath := "annex/alarm", byteOffset := 0 }, { name := "place", type := 79, offset := 1, embedded := Bool.false, tag := "", pkgPath := "annex/alarm", byteOffset := 24 }, { name := "ahead", type := 82, offset := 2, embedded := Bool.false, tag := "", pkgPath := "annex/alarm", byteOffset := 32 }]) := ⟨Try.underlying85⟩
instance i85 : IC Try.prog 85 3 40 (.agg #[.slice none 0 0, .map none, .nilFunc]) := ⟨i_of (by kernel_rfl)⟩
instance u98 : UC Try.prog 98 (Go.TypeDesc.struct #[{ name := "heap", type := 96, offset := 0, embedded := Bool.false, tag := "", pkgPath := "annex/alarm", byteOffset := 0 }, { name := "place", type := 92, offset := 1, embedded := Bool.false, tag := "", pkgPath := "annex/alarm", byteOffset := 24 }, { name := "ahead", type := 95, offset := 2, embedded := Bool.false, tag := "", pkgPath := "annex/alarm", byteOffset := 32 }]) := ⟨Try.underlying98⟩
instance i98 : IC Try.prog 98 3 40 (.agg #[.slice none 0 0, .map none, .nilFunc]) := ⟨i_of (by kernel_rfl)⟩
instance u119 : UC Try.prog 119 (Go.TypeDesc.struct #[{ name := "heap", type := 117, offset := 0, embedded := Bool.false, tag := "", pkgPath := "annex/alarm", byteOffset := 0 }, { name := "place", type := 113, offset := 1, embedded := Bool.false, tag := "", pkgPath := "annex/alarm", byteOffset := 24 }, { name := "ahead", type := 116, offset := 2, embedded := Bool.false, tag := "", pkgPath := "annex/alarm", byteOffset := 32 }]) := ⟨Try.underlying119⟩
instance i119 : IC Try.prog 119 3 40 (.agg #[.slice none 0 0, .map none, .nilFunc]) := ⟨i_of (by kernel_rfl)⟩
instance u28 : UC Try.prog 28 (Go.TypeDesc.struct #[{ name := "K", type := 3, offset := 0, embedded := Bool.false, tag := "", pkgPath := "", byteOffset := 0 }, { name := "At", type := 3, offset := 1, embedded := Bool.false, tag := "", pkgPath := "", byteOffset := 8 }]) := ⟨Try.underlying28⟩
instance i28 : IC Try.prog 28 2 16 (.agg #[.int .i64 0, .int .i64 0]) := ⟨i_of (by kernel_rfl)⟩
instance u51 : UC Try.prog 51 (Go.TypeDesc.pointer 98) := ⟨Try.underlying51⟩
instance i51 : IC Try.prog 51 1 8 (.pointer none) := ⟨i_of (by kernel_rfl)⟩
instance u41 : UC Try.prog 41 (Go.TypeDesc.slice 29) := ⟨Try.underlying41⟩
instance i41 : IC Try.prog 41 1 24 (.slice none 0 0) := ⟨i_of (by kernel_rfl)⟩
instance u5 : UC Try.prog 5 (Go.TypeDesc.int Go.IntKind.u8) := ⟨Try.underlying5⟩
instance i5 : IC Try.prog 5 1 1 (.int .u8 0) := ⟨i_of (by kernel_rfl)⟩
instance u105 : UC Try.prog 105 (Go.TypeDesc.pointer 119) := ⟨Try.underlying105⟩
instance i105 : IC Try.prog 105 1 8 (.pointer none) := ⟨i_of (by kernel_rfl)⟩
instance u90 : UC Try.prog 90 (Go.TypeDesc.struct #[{ name := "L", type := 88, offset := 0, embedded := Bool.false, tag := "", pkgPath := "", byteOffset := 0 }]) := ⟨Try.underlying90⟩
instance i90 : IC Try.prog 90 1 24 (.agg #[.slice none 0 0]) := ⟨i_of (by kernel_rfl)⟩
instance u69 : UC Try.prog 69 (Go.TypeDesc.slice 9) := ⟨Try.underlying69⟩
instance i69 : IC Try.prog 69 1 24 (.slice none 0 0) := ⟨i_of (by kernel_rfl)⟩
instance u45 : UC Try.prog 45 (Go.TypeDesc.struct #[{ name := "Kind", type := 3, offset := 0, embedded := Bool.false, tag := "", pkgPath := "", byteOffset := 0 }, { name := "Second", type := 4, offset := 1, embedded := Bool.false, tag := "", pkgPath := "", byteOffset := 8 }, { name := "K", type := 3, offset := 2, embedded := Bool.false, tag := "", pkgPath := "", byteOffset := 16 }, { name := "At", type := 3, offset := 3, embedded := Bool.false, tag := "", pkgPath := "", byteOffset := 24 }]) := ⟨Try.underlying45⟩
instance i45 : IC Try.prog 45 4 32 (.agg #[.int .i64 0, .bool false, .int .i64 0, .int .i64 0]) := ⟨i_of (by kernel_rfl)⟩
instance u72 : UC Try.prog 72 (Go.TypeDesc.slice 58) := ⟨Try.underlying72⟩
instance i72 : IC Try.prog 72 1 24 (.slice none 0 0) := ⟨i_of (by kernel_rfl)⟩
instance u102 : UC Try.prog 102 (Go.TypeDesc.struct #[{ name := "Key", type := 58, offset := 0, embedded := Bool.false, tag := "", pkgPath := "", byteOffset := 0 }, { name := "At", type := 3, offset := 2, embedded := Bool.false, tag := "", pkgPath := "", byteOffset := 24 }]) := ⟨Try.underlying102⟩
instance i102 : IC Try.prog 102 3 32 (.agg #[.int .i64 0, .string ByteArray.empty, .int .i64 0]) := ⟨i_of (by kernel_rfl)⟩
instance u43 : UC Try.prog 43 (Go.TypeDesc.struct #[{ name := "L", type := 41, offset := 0, embedded := Bool.false, tag := "", pkgPath := "", byteOffset := 0 }, { name := "N", type := 29, offset := 1, embedded := Bool.false, tag := "", pkgPath := "", byteOffset := 24 }]) := ⟨Try.underlying43⟩
instance i43 : IC Try.prog 43 2 48 (.agg #[.slice none 0 0, .slice none 0 0]) := ⟨i_of (by kernel_rfl)⟩
instance u54 : UC Try.prog 54 (Go.TypeDesc.struct #[{ name := "Kind", type := 3, offset := 0, embedded := Bool.false, tag := "", pkgPath := "", byteOffset := 0 }, { name := "K", type := 9, offset := 1, embedded := Bool.false, tag := "", pkgPath := "", byteOffset := 8 }, { name := "At", type := 3, offset := 2, embedded := Bool.false, tag := "", pkgPath := "", byteOffset := 24 }]) := ⟨Try.underlying54⟩
instance i54 : IC Try.prog 54 3 32 (.agg #[.int .i64 0, .string ByteArray.empty, .int .i64 0]) := ⟨i_of (by kernel_rfl)⟩
instance u79 : UC Try.prog 79 (Go.TypeDesc.map 3 3) := ⟨Try.underlying79⟩
instance i79 : IC Try.prog 79 1 8 (.map none) := ⟨i_of (by kernel_rfl)⟩
instance u92 : UC Try.prog 92 (Go.TypeDesc.map 9 3) := ⟨Try.underlying92⟩
instance i92 : IC Try.prog 92 1 8 (.map none) := ⟨i_of (by kernel_rfl)⟩
instance u103 : UC Try.prog 103 (Go.TypeDesc.slice 24) := ⟨Try.underlying103⟩
instance i103 : IC Try.prog 103 1 24 (.slice none 0 0) := ⟨i_of (by kernel_rfl)⟩
instance u110 : UC Try.prog 110 (Go.TypeDesc.slice 5) := ⟨Try.underlying110⟩
instance i110 : IC Try.prog 110 1 24 (.slice none 0 0) := ⟨i_of (by kernel_rfl)⟩
instance u113 : UC Try.prog 113 (Go.TypeDesc.map 5 3) := ⟨Try.underlying113⟩
instance i113 : IC Try.prog 113 1 8 (.map none) := ⟨i_of (by kernel_rfl)⟩
instance u40 : UC Try.prog 40 (Go.TypeDesc.pointer 43) := ⟨Try.underlying40⟩
instance i40 : IC Try.prog 40 1 8 (.pointer none) := ⟨i_of (by kernel_rfl)⟩
instance u37 : UC Try.prog 37 (Go.TypeDesc.slice 45) := ⟨Try.underlying37⟩
instance i37 : IC Try.prog 37 1 24 (.slice none 0 0) := ⟨i_of (by kernel_rfl)⟩
instance u10 : UC Try.prog 10 (Go.TypeDesc.string) := ⟨Try.underlying10⟩
instance i10 : IC Try.prog 10 1 16 (.string ByteArray.empty) := ⟨i_of (by kernel_rfl)⟩
instance u50 : UC Try.prog 50 (Go.TypeDesc.slice 54) := ⟨Try.underlying50⟩
instance i50 : IC Try.prog 50 1 24 (.slice none 0 0) := ⟨i_of (by kernel_rfl)⟩
instance u7 : UC Try.prog 7 (Go.TypeDesc.struct #[{ name := "x", type := 2, offset := 0, embedded := Bool.false, tag := "", pkgPath := "runtime", byteOffset := 0 }, { name := "y", type := 3, offset := 1, embedded := Bool.false, tag := "", pkgPath := "runtime", byteOffset := 8 }, { name := "signed", type := 4, offset := 2, embedded := Bool.false, tag := "", pkgPath := "runtime", byteOffset := 16 }, { name := "code", type := 6, offset := 3, embedded := Bool.false, tag := "", pkgPath := "runtime", byteOffset := 17 }]) := ⟨Try.underlying7⟩
instance i7 : IC Try.prog 7 4 24 (.agg #[.int .i64 0, .int .i64 0, .bool false, .int .u8 0]) := ⟨i_of (by kernel_rfl)⟩
instance u82 : UC Try.prog 82 (Go.TypeDesc.func #[81, 81] #[4] Bool.false) := ⟨Try.underlying82⟩
instance i82 : IC Try.prog 82 1 8 (.nilFunc) := ⟨i_of (by kernel_rfl)⟩
instance u95 : UC Try.prog 95 (Go.TypeDesc.func #[94, 94] #[4] Bool.false) := ⟨Try.underlying95⟩
instance i95 : IC Try.prog 95 1 8 (.nilFunc) := ⟨i_of (by kernel_rfl)⟩
instance u116 : UC Try.prog 116 (Go.TypeDesc.func #[115, 115] #[4] Bool.false) := ⟨Try.underlying116⟩
instance i116 : IC Try.prog 116 1 8 (.nilFunc) := ⟨i_of (by kernel_rfl)⟩
instance u6 : UC Try.prog 6 (Go.TypeDesc.int Go.IntKind.u8) := ⟨Try.underlying6⟩
instance i6 : IC Try.prog 6 1 1 (.int .u8 0) := ⟨i_of (by kernel_rfl)⟩
instance u20 : UC Try.prog 20 (Go.TypeDesc.interface #[]) := ⟨Try.underlying20⟩
instance i20 : IC Try.prog 20 1 16 (.nilIface) := ⟨i_of (by kernel_rfl)⟩
instance f85_0 : FC Try.prog 85 0 0 83 := ⟨⟨_, _, Try.underlying85, rfl, rfl, rfl, _, IC.size, (by decide)⟩⟩
instance f98_0 : FC Try.prog 98 0 0 96 := ⟨⟨_, _, Try.underlying98, rfl, rfl, rfl, _, IC.size, (by decide)⟩⟩
instance f119_0 : FC Try.prog 119 0 0 117 := ⟨⟨_, _, Try.underlying119, rfl, rfl, rfl, _, IC.size, (by decide)⟩⟩
instance f90_0 : FC Try.prog 90 0 0 88 := ⟨⟨_, _, Try.underlying90, rfl, rfl, rfl, _, IC.size, (by decide)⟩⟩
instance f28_0 : FC Try.prog 28 0 0 3 := ⟨⟨_, _, Try.underlying28, rfl, rfl, rfl, _, IC.size, (by decide)⟩⟩
instance f28_1 : FC Try.prog 28 1 1 3 := ⟨⟨_, _, Try.underlying28, rfl, rfl, rfl, _, IC.size, (by decide)⟩⟩
instance f102_1 : FC Try.prog 102 1 2 3 := ⟨⟨_, _, Try.underlying102, rfl, rfl, rfl, _, IC.size, (by decide)⟩⟩
instance f81_1 : FC Try.prog 81 1 1 3 := ⟨⟨_, _, Try.underlying81, rfl, rfl, rfl, _, IC.size, (by decide)⟩⟩
instance f43_0 : FC Try.prog 43 0 0 41 := ⟨⟨_, _, Try.underlying43, rfl, rfl, rfl, _, IC.size, (by decide)⟩⟩
instance f94_1 : FC Try.prog 94 1 1 3 := ⟨⟨_, _, Try.underlying94, rfl, rfl, rfl, _, IC.size, (by decide)⟩⟩
instance f54_1 : FC Try.prog 54 1 1 9 := ⟨⟨_, _, Try.underlying54, rfl, rfl, rfl, _, IC.size, (by decide)⟩⟩
instance f81_0 : FC Try.prog 81 0 0 3 := ⟨⟨_, _, Try.underlying81, rfl, rfl, rfl, _, IC.size, (by decide)⟩⟩
instance f58_0 : FC Try.prog 58 0 0 3 := ⟨⟨_, _, Try.underlying58, rfl, rfl, rfl, _, IC.size, (by decide)⟩⟩
instance f94_0 : FC Try.prog 94 0 0 9 := ⟨⟨_, _, Try.underlying94, rfl, rfl, rfl, _, IC.size, (by decide)⟩⟩
instance f115_0 : FC Try.prog 115 0 0 5 := ⟨⟨_, _, Try.underlying115, rfl, rfl, rfl, _, IC.size, (by decide)⟩⟩
instance f115_1 : FC Try.prog 115 1 1 3 := ⟨⟨_, _, Try.underlying115, rfl, rfl, rfl, _, IC.size, (by decide)⟩⟩
instance f85_1 : FC Try.prog 85 1 1 79 := ⟨⟨_, _, Try.underlying85, rfl, rfl, rfl, _, IC.size, (by decide)⟩⟩
instance f98_1 : FC Try.prog 98 1 1 92 := ⟨⟨_, _, Try.underlying98, rfl, rfl, rfl, _, IC.size, (by decide)⟩⟩
instance f102_0 : FC Try.prog 102 0 0 58 := ⟨⟨_, _, Try.underlying102, rfl, rfl, rfl, _, IC.size, (by decide)⟩⟩
instance f54_2 : FC Try.prog 54 2 2 3 := ⟨⟨_, _, Try.underlying54, rfl, rfl, rfl, _, IC.size, (by decide)⟩⟩
instance f58_1 : FC Try.prog 58 1 1 9 := ⟨⟨_, _, Try.underlying58, rfl, rfl, rfl, _, IC.size, (by decide)⟩⟩
instance f45_2 : FC Try.prog 45 2 2 3 := ⟨⟨_, _, Try.underlying45, rfl, rfl, rfl, _, IC.size, (by decide)⟩⟩
instance f45_3 : FC Try.prog 45 3 3 3 := ⟨⟨_, _, Try.underlying45, rfl, rfl, rfl, _, IC.size, (by decide)⟩⟩
instance f119_1 : FC Try.prog 119 1 1 113 := ⟨⟨_, _, Try.underlying119, rfl, rfl, rfl, _, IC.size, (by decide)⟩⟩
instance f43_1 : FC Try.prog 43 1 1 29 := ⟨⟨_, _, Try.underlying43, rfl, rfl, rfl, _, IC.size, (by decide)⟩⟩
instance f85_2 : FC Try.prog 85 2 2 82 := ⟨⟨_, _, Try.underlying85, rfl, rfl, rfl, _, IC.size, (by decide)⟩⟩
instance f98_2 : FC Try.prog 98 2 2 95 := ⟨⟨_, _, Try.underlying98, rfl, rfl, rfl, _, IC.size, (by decide)⟩⟩
instance f119_2 : FC Try.prog 119 2 2 116 := ⟨⟨_, _, Try.underlying119, rfl, rfl, rfl, _, IC.size, (by decide)⟩⟩
instance f45_0 : FC Try.prog 45 0 0 3 := ⟨⟨_, _, Try.underlying45, rfl, rfl, rfl, _, IC.size, (by decide)⟩⟩
instance f45_1 : FC Try.prog 45 1 1 4 := ⟨⟨_, _, Try.underlying45, rfl, rfl, rfl, _, IC.size, (by decide)⟩⟩
instance f54_0 : FC Try.prog 54 0 0 3 := ⟨⟨_, _, Try.underlying54, rfl, rfl, rfl, _, IC.size, (by decide)⟩⟩
instance b58 : BC Try.prog 58 [(0, 1), (1, 1)] [.int .i64 0, .string ByteArray.empty] := ⟨⟨_, _, Try.underlying58, IC.zero, rfl, rfl, fun i f h => by
    match i, h with
    | 0, h => cases h; exact ⟨_, _, rfl, rfl, IC.size⟩
    | 1, h => cases h; exact ⟨_, _, rfl, rfl, IC.size⟩
    | _ + 2, h => cases h⟩⟩
instance b81 : BC Try.prog 81 [(0, 1), (1, 1)] [.int .i64 0, .int .i64 0] := ⟨⟨_, _, Try.underlying81, IC.zero, rfl, rfl, fun i f h => by
    match i, h with
    | 0, h => cases h; exact ⟨_, _, rfl, rfl, IC.size⟩
    | 1, h => cases h; exact ⟨_, _, rfl, rfl, IC.size⟩
    | _ + 2, h => cases h⟩⟩
instance b94 : BC Try.prog 94 [(0, 1), (1, 1)] [.string ByteArray.empty, .int .i64 0] := ⟨⟨_, _, Try.underlying94, IC.zero, rfl, rfl, fun i f h => by
    match i, h with
    | 0, h => cases h; exact ⟨_, _, rfl, rfl, IC.size⟩
    | 1, h => cases h; exact ⟨_, _, rfl, rfl, IC.size⟩
    | _ + 2, h => cases h⟩⟩
instance b115 : BC Try.prog 115 [(0, 1), (1, 1)] [.int .u8 0, .int .i64 0] := ⟨⟨_, _, Try.underlying115, IC.zero, rfl, rfl, fun i f h => by
    match i, h with
    | 0, h => cases h; exact ⟨_, _, rfl, rfl, IC.size⟩
    | 1, h => cases h; exact ⟨_, _, rfl, rfl, IC.size⟩
    | _ + 2, h => cases h⟩⟩
instance b85 : BC Try.prog 85 [(0, 1), (1, 1), (2, 1)] [.slice none 0 0, .map none, .nilFunc] := ⟨⟨_, _, Try.underlying85, IC.zero, rfl, rfl, fun i f h => by
    match i, h with
    | 0, h => cases h; exact ⟨_, _, rfl, rfl, IC.size⟩
    | 1, h => cases h; exact ⟨_, _, rfl, rfl, IC.size⟩
    | 2, h => cases h; exact ⟨_, _, rfl, rfl, IC.size⟩
    | _ + 3, h => cases h⟩⟩
instance b98 : BC Try.prog 98 [(0, 1), (1, 1), (2, 1)] [.slice none 0 0, .map none, .nilFunc] := ⟨⟨_, _, Try.underlying98, IC.zero, rfl, rfl, fun i f h => by
    match i, h with
    | 0, h => cases h; exact ⟨_, _, rfl, rfl, IC.size⟩
    | 1, h => cases h; exact ⟨_, _, rfl, rfl, IC.size⟩
    | 2, h => cases h; exact ⟨_, _, rfl, rfl, IC.size⟩
    | _ + 3, h => cases h⟩⟩
instance b119 : BC Try.prog 119 [(0, 1), (1, 1), (2, 1)] [.slice none 0 0, .map none, .nilFunc] := ⟨⟨_, _, Try.underlying119, IC.zero, rfl, rfl, fun i f h => by
    match i, h with
    | 0, h => cases h; exact ⟨_, _, rfl, rfl, IC.size⟩
    | 1, h => cases h; exact ⟨_, _, rfl, rfl, IC.size⟩
    | 2, h => cases h; exact ⟨_, _, rfl, rfl, IC.size⟩
    | _ + 3, h => cases h⟩⟩
instance b28 : BC Try.prog 28 [(0, 1), (1, 1)] [.int .i64 0, .int .i64 0] := ⟨⟨_, _, Try.underlying28, IC.zero, rfl, rfl, fun i f h => by
    match i, h with
    | 0, h => cases h; exact ⟨_, _, rfl, rfl, IC.size⟩
    | 1, h => cases h; exact ⟨_, _, rfl, rfl, IC.size⟩
    | _ + 2, h => cases h⟩⟩
instance b90 : BC Try.prog 90 [(0, 1)] [.slice none 0 0] := ⟨⟨_, _, Try.underlying90, IC.zero, rfl, rfl, fun i f h => by
    match i, h with
    | 0, h => cases h; exact ⟨_, _, rfl, rfl, IC.size⟩
    | _ + 1, h => cases h⟩⟩
instance b45 : BC Try.prog 45 [(0, 1), (1, 1), (2, 1), (3, 1)] [.int .i64 0, .bool false, .int .i64 0, .int .i64 0] := ⟨⟨_, _, Try.underlying45, IC.zero, rfl, rfl, fun i f h => by
    match i, h with
    | 0, h => cases h; exact ⟨_, _, rfl, rfl, IC.size⟩
    | 1, h => cases h; exact ⟨_, _, rfl, rfl, IC.size⟩
    | 2, h => cases h; exact ⟨_, _, rfl, rfl, IC.size⟩
    | 3, h => cases h; exact ⟨_, _, rfl, rfl, IC.size⟩
    | _ + 4, h => cases h⟩⟩
instance b102 : BC Try.prog 102 [(0, 2), (2, 1)] [.int .i64 0, .string ByteArray.empty, .int .i64 0] := ⟨⟨_, _, Try.underlying102, IC.zero, rfl, rfl, fun i f h => by
    match i, h with
    | 0, h => cases h; exact ⟨_, _, rfl, rfl, IC.size⟩
    | 1, h => cases h; exact ⟨_, _, rfl, rfl, IC.size⟩
    | _ + 2, h => cases h⟩⟩
instance b43 : BC Try.prog 43 [(0, 1), (1, 1)] [.slice none 0 0, .slice none 0 0] := ⟨⟨_, _, Try.underlying43, IC.zero, rfl, rfl, fun i f h => by
    match i, h with
    | 0, h => cases h; exact ⟨_, _, rfl, rfl, IC.size⟩
    | 1, h => cases h; exact ⟨_, _, rfl, rfl, IC.size⟩
    | _ + 2, h => cases h⟩⟩
instance b54 : BC Try.prog 54 [(0, 1), (1, 1), (2, 1)] [.int .i64 0, .string ByteArray.empty, .int .i64 0] := ⟨⟨_, _, Try.underlying54, IC.zero, rfl, rfl, fun i f h => by
    match i, h with
    | 0, h => cases h; exact ⟨_, _, rfl, rfl, IC.size⟩
    | 1, h => cases h; exact ⟨_, _, rfl, rfl, IC.size⟩
    | 2, h => cases h; exact ⟨_, _, rfl, rfl, IC.size⟩
    | _ + 3, h => cases h⟩⟩
instance b7 : BC Try.prog 7 [(0, 1), (1, 1), (2, 1), (3, 1)] [.int .i64 0, .int .i64 0, .bool false, .int .u8 0] := ⟨⟨_, _, Try.underlying7, IC.zero, rfl, rfl, fun i f h => by
    match i, h with
    | 0, h => cases h; exact ⟨_, _, rfl, rfl, IC.size⟩
    | 1, h => cases h; exact ⟨_, _, rfl, rfl, IC.size⟩
    | 2, h => cases h; exact ⟨_, _, rfl, rfl, IC.size⟩
    | 3, h => cases h; exact ⟨_, _, rfl, rfl, IC.size⟩
    | _ + 4, h => cases h⟩⟩
instance e3 : EC Try.prog 3 := ⟨Enters.mk Try.func3 (by kernel_rfl) (by kernel_rfl)⟩
instance e4 : EC Try.prog 4 := ⟨Enters.mk Try.func4 (by kernel_rfl) (by kernel_rfl)⟩
instance e5 : EC Try.prog 5 := ⟨Enters.mk Try.func5 (by kernel_rfl) (by kernel_rfl)⟩
instance e6 : EC Try.prog 6 := ⟨Enters.mk Try.func6 (by kernel_rfl) (by kernel_rfl)⟩
instance e7 : EC Try.prog 7 := ⟨Enters.mk Try.func7 (by kernel_rfl) (by kernel_rfl)⟩
instance e8 : EC Try.prog 8 := ⟨Enters.mk Try.func8 (by kernel_rfl) (by kernel_rfl)⟩
instance e9 : EC Try.prog 9 := ⟨Enters.mk Try.func9 (by kernel_rfl) (by kernel_rfl)⟩
instance e10 : EC Try.prog 10 := ⟨Enters.mk Try.func10 (by kernel_rfl) (by kernel_rfl)⟩
instance e11 : EC Try.prog 11 := ⟨Enters.mk Try.func11 (by kernel_rfl) (by kernel_rfl)⟩
instance e12 : EC Try.prog 12 := ⟨Enters.mk Try.func12 (by kernel_rfl) (by kernel_rfl)⟩
instance e13 : EC Try.prog 13 := ⟨Enters.mk Try.func13 (by kernel_rfl) (by kernel_rfl)⟩
instance e14 : EC Try.prog 14 := ⟨Enters.mk Try.func14 (by kernel_rfl) (by kernel_rfl)⟩
instance e15 : EC Try.prog 15 := ⟨Enters.mk Try.func15 (by kernel_rfl) (by kernel_rfl)⟩
instance e16 : EC Try.prog 16 := ⟨Enters.mk Try.func16 (by kernel_rfl) (by kernel_rfl)⟩
instance e17 : EC Try.prog 17 := ⟨Enters.mk Try.func17 (by kernel_rfl) (by kernel_rfl)⟩
instance e18 : EC Try.prog 18 := ⟨Enters.mk Try.func18 (by kernel_rfl) (by kernel_rfl)⟩
instance e19 : EC Try.prog 19 := ⟨Enters.mk Try.func19 (by kernel_rfl) (by kernel_rfl)⟩
instance e20 : EC Try.prog 20 := ⟨Enters.mk Try.func20 (by kernel_rfl) (by kernel_rfl)⟩
instance e21 : EC Try.prog 21 := ⟨Enters.mk Try.func21 (by kernel_rfl) (by kernel_rfl)⟩
instance e22 : EC Try.prog 22 := ⟨Enters.mk Try.func22 (by kernel_rfl) (by kernel_rfl)⟩
instance e23 : EC Try.prog 23 := ⟨Enters.mk Try.func23 (by kernel_rfl) (by kernel_rfl)⟩
instance e24 : EC Try.prog 24 := ⟨Enters.mk Try.func24 (by kernel_rfl) (by kernel_rfl)⟩
instance e25 : EC Try.prog 25 := ⟨Enters.mk Try.func25 (by kernel_rfl) (by kernel_rfl)⟩
instance e26 : EC Try.prog 26 := ⟨Enters.mk Try.func26 (by kernel_rfl) (by kernel_rfl)⟩
instance e27 : EC Try.prog 27 := ⟨Enters.mk Try.func27 (by kernel_rfl) (by kernel_rfl)⟩
instance e28 : EC Try.prog 28 := ⟨Enters.mk Try.func28 (by kernel_rfl) (by kernel_rfl)⟩
instance e29 : EC Try.prog 29 := ⟨Enters.mk Try.func29 (by kernel_rfl) (by kernel_rfl)⟩
instance e30 : EC Try.prog 30 := ⟨Enters.mk Try.func30 (by kernel_rfl) (by kernel_rfl)⟩
instance e31 : EC Try.prog 31 := ⟨Enters.mk Try.func31 (by kernel_rfl) (by kernel_rfl)⟩
instance e32 : EC Try.prog 32 := ⟨Enters.mk Try.func32 (by kernel_rfl) (by kernel_rfl)⟩
instance e33 : EC Try.prog 33 := ⟨Enters.mk Try.func33 (by kernel_rfl) (by kernel_rfl)⟩
instance e34 : EC Try.prog 34 := ⟨Enters.mk Try.func34 (by kernel_rfl) (by kernel_rfl)⟩
instance e35 : EC Try.prog 35 := ⟨Enters.mk Try.func35 (by kernel_rfl) (by kernel_rfl)⟩
instance e36 : EC Try.prog 36 := ⟨Enters.mk Try.func36 (by kernel_rfl) (by kernel_rfl)⟩
instance e37 : EC Try.prog 37 := ⟨Enters.mk Try.func37 (by kernel_rfl) (by kernel_rfl)⟩
instance e38 : EC Try.prog 38 := ⟨Enters.mk Try.func38 (by kernel_rfl) (by kernel_rfl)⟩
instance e39 : EC Try.prog 39 := ⟨Enters.mk Try.func39 (by kernel_rfl) (by kernel_rfl)⟩
instance e40 : EC Try.prog 40 := ⟨Enters.mk Try.func40 (by kernel_rfl) (by kernel_rfl)⟩
instance e41 : EC Try.prog 41 := ⟨Enters.mk Try.func41 (by kernel_rfl) (by kernel_rfl)⟩
instance e42 : EC Try.prog 42 := ⟨Enters.mk Try.func42 (by kernel_rfl) (by kernel_rfl)⟩
instance e43 : EC Try.prog 43 := ⟨Enters.mk Try.func43 (by kernel_rfl) (by kernel_rfl)⟩
instance e44 : EC Try.prog 44 := ⟨Enters.mk Try.func44 (by kernel_rfl) (by kernel_rfl)⟩
instance e45 : EC Try.prog 45 := ⟨Enters.mk Try.func45 (by kernel_rfl) (by kernel_rfl)⟩
instance e46 : EC Try.prog 46 := ⟨Enters.mk Try.func46 (by kernel_rfl) (by kernel_rfl)⟩
instance e47 : EC Try.prog 47 := ⟨Enters.mk Try.func47 (by kernel_rfl) (by kernel_rfl)⟩
instance e48 : EC Try.prog 48 := ⟨Enters.mk Try.func48 (by kernel_rfl) (by kernel_rfl)⟩
instance e49 : EC Try.prog 49 := ⟨Enters.mk Try.func49 (by kernel_rfl) (by kernel_rfl)⟩
instance e50 : EC Try.prog 50 := ⟨Enters.mk Try.func50 (by kernel_rfl) (by kernel_rfl)⟩
instance e51 : EC Try.prog 51 := ⟨Enters.mk Try.func51 (by kernel_rfl) (by kernel_rfl)⟩
instance e52 : EC Try.prog 52 := ⟨Enters.mk Try.func52 (by kernel_rfl) (by kernel_rfl)⟩
instance e53 : EC Try.prog 53 := ⟨Enters.mk Try.func53 (by kernel_rfl) (by kernel_rfl)⟩
instance e54 : EC Try.prog 54 := ⟨Enters.mk Try.func54 (by kernel_rfl) (by kernel_rfl)⟩
instance e55 : EC Try.prog 55 := ⟨Enters.mk Try.func55 (by kernel_rfl) (by kernel_rfl)⟩
instance e56 : EC Try.prog 56 := ⟨Enters.mk Try.func56 (by kernel_rfl) (by kernel_rfl)⟩
instance e57 : EC Try.prog 57 := ⟨Enters.mk Try.func57 (by kernel_rfl) (by kernel_rfl)⟩
instance e58 : EC Try.prog 58 := ⟨Enters.mk Try.func58 (by kernel_rfl) (by kernel_rfl)⟩
end Go.Proofs.Ytggohplddejniaa
