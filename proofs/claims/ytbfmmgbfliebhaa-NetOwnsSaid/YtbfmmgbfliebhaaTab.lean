import Derived.Test.YtbfmmgbfliebhaaEngA
import Derived.Test.YtbfmmgbfliebhaaProg
namespace Go.Proofs.Ytbfmmgbfliebhaa
open Go Go.Proofs
set_option maxRecDepth 20000
theorem i_of {P : Program} {t s b : Nat} {z : Value} (h1 : (P.info? t).map (fun i => (i.size, i.bytes, i.zero)) = some (s, b, some z)) : ∃ i, P.info? t = some i ∧ i.size = s ∧ i.bytes = b ∧ i.zero = some z := by
  simp only [Option.map_eq_some_iff, Prod.mk.injEq] at h1
  obtain ⟨j, h3, h4, h5, h6⟩ := h1
  exact ⟨j, h3, h4, h5, h6⟩
instance u3 : UC Try.prog 3 (Go.TypeDesc.int Go.IntKind.i64) := ⟨Try.underlying3⟩
instance i3 : IC Try.prog 3 1 8 (.int .i64 0) := ⟨i_of (by kernel_rfl)⟩
instance u33 : UC Try.prog 33 (Go.TypeDesc.slice 5) := ⟨Try.underlying33⟩
instance i33 : IC Try.prog 33 1 24 (.slice none 0 0) := ⟨i_of (by kernel_rfl)⟩
instance u48 : UC Try.prog 48 (Go.TypeDesc.slice 52) := ⟨Try.underlying48⟩
instance i48 : IC Try.prog 48 1 24 (.slice none 0 0) := ⟨i_of (by kernel_rfl)⟩
instance u1 : UC Try.prog 1 (Go.TypeDesc.func #[] #[] Bool.false) := ⟨Try.underlying1⟩
instance i1 : IC Try.prog 1 1 8 (.nilFunc) := ⟨i_of (by kernel_rfl)⟩
instance u24 : UC Try.prog 24 (Go.TypeDesc.pointer 76) := ⟨Try.underlying24⟩
instance i24 : IC Try.prog 24 1 8 (.pointer none) := ⟨i_of (by kernel_rfl)⟩
instance u37 : UC Try.prog 37 (Go.TypeDesc.struct #[{ name := "To", type := 3, offset := 0, embedded := Bool.false, tag := "", pkgPath := "", byteOffset := 0 }, { name := "Data", type := 33, offset := 1, embedded := Bool.false, tag := "", pkgPath := "", byteOffset := 8 }]) := ⟨Try.underlying37⟩
instance i37 : IC Try.prog 37 2 32 (.agg #[.int .i64 0, .slice none 0 0]) := ⟨i_of (by kernel_rfl)⟩
instance u52 : UC Try.prog 52 (Go.TypeDesc.struct #[{ name := "No", type := 3, offset := 0, embedded := Bool.false, tag := "", pkgPath := "", byteOffset := 0 }, { name := "To", type := 3, offset := 1, embedded := Bool.false, tag := "", pkgPath := "", byteOffset := 8 }, { name := "Data", type := 33, offset := 2, embedded := Bool.false, tag := "", pkgPath := "", byteOffset := 16 }]) := ⟨Try.underlying52⟩
instance i52 : IC Try.prog 52 3 40 (.agg #[.int .i64 0, .int .i64 0, .slice none 0 0]) := ⟨i_of (by kernel_rfl)⟩
instance u2 : UC Try.prog 2 (Go.TypeDesc.int Go.IntKind.i64) := ⟨Try.underlying2⟩
instance i2 : IC Try.prog 2 1 8 (.int .i64 0) := ⟨i_of (by kernel_rfl)⟩
instance u58 : UC Try.prog 58 (Go.TypeDesc.slice 89) := ⟨Try.underlying58⟩
instance i58 : IC Try.prog 58 1 24 (.slice none 0 0) := ⟨i_of (by kernel_rfl)⟩
instance u5 : UC Try.prog 5 (Go.TypeDesc.int Go.IntKind.u8) := ⟨Try.underlying5⟩
instance i5 : IC Try.prog 5 1 1 (.int .u8 0) := ⟨i_of (by kernel_rfl)⟩
instance u38 : UC Try.prog 38 (Go.TypeDesc.int Go.IntKind.i64) := ⟨Try.underlying38⟩
instance i38 : IC Try.prog 38 1 8 (.int .i64 0) := ⟨i_of (by kernel_rfl)⟩
instance u35 : UC Try.prog 35 (Go.TypeDesc.struct #[{ name := "Kind", type := 3, offset := 0, embedded := Bool.false, tag := "", pkgPath := "", byteOffset := 0 }, { name := "Who", type := 3, offset := 1, embedded := Bool.false, tag := "", pkgPath := "", byteOffset := 8 }, { name := "No", type := 3, offset := 2, embedded := Bool.false, tag := "", pkgPath := "", byteOffset := 16 }, { name := "At", type := 3, offset := 3, embedded := Bool.false, tag := "", pkgPath := "", byteOffset := 24 }, { name := "V", type := 3, offset := 4, embedded := Bool.false, tag := "", pkgPath := "", byteOffset := 32 }, { name := "To", type := 3, offset := 5, embedded := Bool.false, tag := "", pkgPath := "", byteOffset := 40 }, { name := "Data", type := 33, offset := 6, embedded := Bool.false, tag := "", pkgPath := "", byteOffset := 48 }, { name := "Many", type := 3, offset := 7, embedded := Bool.false, tag := "", pkgPath := "", byteOffset := 72 }]) := ⟨Try.underlying35⟩
instance i35 : IC Try.prog 35 8 80 (.agg #[.int .i64 0, .int .i64 0, .int .i64 0, .int .i64 0, .int .i64 0, .int .i64 0, .slice none 0 0, .int .i64 0]) := ⟨i_of (by kernel_rfl)⟩
instance u29 : UC Try.prog 29 (Go.TypeDesc.slice 33) := ⟨Try.underlying29⟩
instance i29 : IC Try.prog 29 1 24 (.slice none 0 0) := ⟨i_of (by kernel_rfl)⟩
instance u60 : UC Try.prog 60 (Go.TypeDesc.struct #[{ name := "a", type := 56, offset := 0, embedded := Bool.false, tag := "", pkgPath := "annex/annexlaw20", byteOffset := 0 }, { name := "b", type := 57, offset := 2, embedded := Bool.false, tag := "", pkgPath := "annex/annexlaw20", byteOffset := 16 }, { name := "book", type := 58, offset := 4, embedded := Bool.false, tag := "", pkgPath := "annex/annexlaw20", byteOffset := 32 }, { name := "step", type := 3, offset := 5, embedded := Bool.false, tag := "", pkgPath := "annex/annexlaw20", byteOffset := 56 }, { name := "long", type := 4, offset := 6, embedded := Bool.false, tag := "", pkgPath := "annex/annexlaw20", byteOffset := 64 }]) := ⟨Try.underlying60⟩
instance i60 : IC Try.prog 60 7 72 (.agg #[.pointer none, .pointer none, .pointer none, .pointer none, .slice none 0 0, .int .i64 0, .bool false]) := ⟨i_of (by kernel_rfl)⟩
instance u4 : UC Try.prog 4 (Go.TypeDesc.bool) := ⟨Try.underlying4⟩
instance i4 : IC Try.prog 4 1 1 (.bool false) := ⟨i_of (by kernel_rfl)⟩
instance u26 : UC Try.prog 26 (Go.TypeDesc.pointer 78) := ⟨Try.underlying26⟩
instance i26 : IC Try.prog 26 1 8 (.pointer none) := ⟨i_of (by kernel_rfl)⟩
instance u32 : UC Try.prog 32 (Go.TypeDesc.slice 48) := ⟨Try.underlying32⟩
instance i32 : IC Try.prog 32 1 24 (.slice none 0 0) := ⟨i_of (by kernel_rfl)⟩
instance u82 : UC Try.prog 82 (Go.TypeDesc.func #[52, 52] #[3] Bool.false) := ⟨Try.underlying82⟩
instance i82 : IC Try.prog 82 1 8 (.nilFunc) := ⟨i_of (by kernel_rfl)⟩
instance u78 : UC Try.prog 78 (Go.TypeDesc.struct #[{ name := "l", type := 48, offset := 0, embedded := Bool.false, tag := "", pkgPath := "annex/annexref20", byteOffset := 0 }, { name := "last", type := 3, offset := 1, embedded := Bool.false, tag := "", pkgPath := "annex/annexref20", byteOffset := 24 }]) := ⟨Try.underlying78⟩
instance i78 : IC Try.prog 78 2 32 (.agg #[.slice none 0 0, .int .i64 0]) := ⟨i_of (by kernel_rfl)⟩
instance u55 : UC Try.prog 55 (Go.TypeDesc.pointer 60) := ⟨Try.underlying55⟩
instance i55 : IC Try.prog 55 1 8 (.pointer none) := ⟨i_of (by kernel_rfl)⟩
instance u31 : UC Try.prog 31 (Go.TypeDesc.struct #[{ name := "ls", type := 29, offset := 0, embedded := Bool.false, tag := "", pkgPath := "annex/annexlaw20", byteOffset := 0 }, { name := "were", type := 29, offset := 1, embedded := Bool.false, tag := "", pkgPath := "annex/annexlaw20", byteOffset := 24 }]) := ⟨Try.underlying31⟩
instance i31 : IC Try.prog 31 2 48 (.agg #[.slice none 0 0, .slice none 0 0]) := ⟨i_of (by kernel_rfl)⟩
instance u56 : UC Try.prog 56 (Go.TypeDesc.array 2 24) := ⟨Try.underlying56⟩
instance i56 : IC Try.prog 56 2 16 (.agg #[.pointer none, .pointer none]) := ⟨i_of (by kernel_rfl)⟩
instance u74 : UC Try.prog 74 (Go.TypeDesc.map 3 37) := ⟨Try.underlying74⟩
instance i74 : IC Try.prog 74 1 8 (.map none) := ⟨i_of (by kernel_rfl)⟩
instance u22 : UC Try.prog 22 (Go.TypeDesc.slice 35) := ⟨Try.underlying22⟩
instance i22 : IC Try.prog 22 1 24 (.slice none 0 0) := ⟨i_of (by kernel_rfl)⟩
instance u65 : UC Try.prog 65 (Go.TypeDesc.struct #[{ name := "Kind", type := 3, offset := 0, embedded := Bool.false, tag := "", pkgPath := "", byteOffset := 0 }, { name := "K", type := 3, offset := 1, embedded := Bool.false, tag := "", pkgPath := "", byteOffset := 8 }, { name := "At", type := 3, offset := 2, embedded := Bool.false, tag := "", pkgPath := "", byteOffset := 16 }, { name := "V", type := 3, offset := 3, embedded := Bool.false, tag := "", pkgPath := "", byteOffset := 24 }, { name := "Data", type := 33, offset := 4, embedded := Bool.false, tag := "", pkgPath := "", byteOffset := 32 }]) := ⟨Try.underlying65⟩
instance i65 : IC Try.prog 65 5 56 (.agg #[.int .i64 0, .int .i64 0, .int .i64 0, .int .i64 0, .slice none 0 0]) := ⟨i_of (by kernel_rfl)⟩
instance u76 : UC Try.prog 76 (Go.TypeDesc.struct #[{ name := "flights", type := 74, offset := 0, embedded := Bool.false, tag := "", pkgPath := "annex/net", byteOffset := 0 }, { name := "given", type := 3, offset := 1, embedded := Bool.false, tag := "", pkgPath := "annex/net", byteOffset := 8 }]) := ⟨Try.underlying76⟩
instance i76 : IC Try.prog 76 2 16 (.agg #[.map none, .int .i64 0]) := ⟨i_of (by kernel_rfl)⟩
instance u6 : UC Try.prog 6 (Go.TypeDesc.int Go.IntKind.u8) := ⟨Try.underlying6⟩
instance i6 : IC Try.prog 6 1 1 (.int .u8 0) := ⟨i_of (by kernel_rfl)⟩
instance u57 : UC Try.prog 57 (Go.TypeDesc.array 2 26) := ⟨Try.underlying57⟩
instance i57 : IC Try.prog 57 2 16 (.agg #[.pointer none, .pointer none]) := ⟨i_of (by kernel_rfl)⟩
instance u28 : UC Try.prog 28 (Go.TypeDesc.pointer 31) := ⟨Try.underlying28⟩
instance i28 : IC Try.prog 28 1 8 (.pointer none) := ⟨i_of (by kernel_rfl)⟩
instance u73 : UC Try.prog 73 (Go.TypeDesc.slice 55) := ⟨Try.underlying73⟩
instance i73 : IC Try.prog 73 1 24 (.slice none 0 0) := ⟨i_of (by kernel_rfl)⟩
instance u89 : UC Try.prog 89 (Go.TypeDesc.struct #[{ name := "l", type := 33, offset := 0, embedded := Bool.false, tag := "", pkgPath := "annex/annexlaw20", byteOffset := 0 }, { name := "mark", type := 5, offset := 1, embedded := Bool.false, tag := "", pkgPath := "annex/annexlaw20", byteOffset := 24 }, { name := "n", type := 3, offset := 2, embedded := Bool.false, tag := "", pkgPath := "annex/annexlaw20", byteOffset := 32 }]) := ⟨Try.underlying89⟩
instance i89 : IC Try.prog 89 3 40 (.agg #[.slice none 0 0, .int .u8 0, .int .i64 0]) := ⟨i_of (by kernel_rfl)⟩
instance u64 : UC Try.prog 64 (Go.TypeDesc.struct #[{ name := "Kind", type := 3, offset := 0, embedded := Bool.false, tag := "", pkgPath := "", byteOffset := 0 }, { name := "K", type := 3, offset := 1, embedded := Bool.false, tag := "", pkgPath := "", byteOffset := 8 }, { name := "At", type := 3, offset := 2, embedded := Bool.false, tag := "", pkgPath := "", byteOffset := 16 }, { name := "V", type := 3, offset := 3, embedded := Bool.false, tag := "", pkgPath := "", byteOffset := 24 }, { name := "Data", type := 33, offset := 4, embedded := Bool.false, tag := "", pkgPath := "", byteOffset := 32 }]) := ⟨Try.underlying64⟩
instance i64 : IC Try.prog 64 5 56 (.agg #[.int .i64 0, .int .i64 0, .int .i64 0, .int .i64 0, .slice none 0 0]) := ⟨i_of (by kernel_rfl)⟩
instance u8 : UC Try.prog 8 (Go.TypeDesc.struct #[{ name := "x", type := 2, offset := 0, embedded := Bool.false, tag := "", pkgPath := "runtime", byteOffset := 0 }, { name := "y", type := 3, offset := 1, embedded := Bool.false, tag := "", pkgPath := "runtime", byteOffset := 8 }, { name := "signed", type := 4, offset := 2, embedded := Bool.false, tag := "", pkgPath := "runtime", byteOffset := 16 }, { name := "code", type := 6, offset := 3, embedded := Bool.false, tag := "", pkgPath := "runtime", byteOffset := 17 }]) := ⟨Try.underlying8⟩
instance i8 : IC Try.prog 8 4 24 (.agg #[.int .i64 0, .int .i64 0, .bool false, .int .u8 0]) := ⟨i_of (by kernel_rfl)⟩
instance u7 : UC Try.prog 7 (Go.TypeDesc.struct #[{ name := "x", type := 2, offset := 0, embedded := Bool.false, tag := "", pkgPath := "runtime", byteOffset := 0 }, { name := "y", type := 3, offset := 1, embedded := Bool.false, tag := "", pkgPath := "runtime", byteOffset := 8 }, { name := "signed", type := 4, offset := 2, embedded := Bool.false, tag := "", pkgPath := "runtime", byteOffset := 16 }, { name := "code", type := 6, offset := 3, embedded := Bool.false, tag := "", pkgPath := "runtime", byteOffset := 17 }]) := ⟨Try.underlying7⟩
instance i7 : IC Try.prog 7 4 24 (.agg #[.int .i64 0, .int .i64 0, .bool false, .int .u8 0]) := ⟨i_of (by kernel_rfl)⟩
instance u93 : UC Try.prog 93 (Go.TypeDesc.int Go.IntKind.u64) := ⟨Try.underlying93⟩
instance i93 : IC Try.prog 93 1 8 (.int .u64 0) := ⟨i_of (by kernel_rfl)⟩
instance u98 : UC Try.prog 98 (Go.TypeDesc.int Go.IntKind.i64) := ⟨Try.underlying98⟩
instance i98 : IC Try.prog 98 1 8 (.int .i64 0) := ⟨i_of (by kernel_rfl)⟩
instance u63 : UC Try.prog 63 (Go.TypeDesc.slice 65) := ⟨Try.underlying63⟩
instance i63 : IC Try.prog 63 1 24 (.slice none 0 0) := ⟨i_of (by kernel_rfl)⟩
instance u20 : UC Try.prog 20 (Go.TypeDesc.interface #[]) := ⟨Try.underlying20⟩
instance i20 : IC Try.prog 20 1 16 (.nilIface) := ⟨i_of (by kernel_rfl)⟩
instance u50 : UC Try.prog 50 (Go.TypeDesc.func #[48, 48] #[4] Bool.false) := ⟨Try.underlying50⟩
instance i50 : IC Try.prog 50 1 8 (.nilFunc) := ⟨i_of (by kernel_rfl)⟩
instance u10 : UC Try.prog 10 (Go.TypeDesc.string) := ⟨Try.underlying10⟩
instance i10 : IC Try.prog 10 1 16 (.string ByteArray.empty) := ⟨i_of (by kernel_rfl)⟩
instance u106 : UC Try.prog 106 (Go.TypeDesc.int Go.IntKind.u32) := ⟨Try.underlying106⟩
instance i106 : IC Try.prog 106 1 4 (.int .u32 0) := ⟨i_of (by kernel_rfl)⟩
instance u108 : UC Try.prog 108 (Go.TypeDesc.int Go.IntKind.u64) := ⟨Try.underlying108⟩
instance i108 : IC Try.prog 108 1 8 (.int .u64 0) := ⟨i_of (by kernel_rfl)⟩
instance u80 : UC Try.prog 80 (Go.TypeDesc.func #[48, 82] #[] Bool.false) := ⟨Try.underlying80⟩
instance i80 : IC Try.prog 80 1 8 (.nilFunc) := ⟨i_of (by kernel_rfl)⟩
instance u30 : UC Try.prog 30 (Go.TypeDesc.struct #[{ name := "ls", type := 29, offset := 0, embedded := Bool.false, tag := "", pkgPath := "annex/annexlaw20", byteOffset := 0 }, { name := "were", type := 29, offset := 1, embedded := Bool.false, tag := "", pkgPath := "annex/annexlaw20", byteOffset := 24 }]) := ⟨Try.underlying30⟩
instance i30 : IC Try.prog 30 2 48 (.agg #[.slice none 0 0, .slice none 0 0]) := ⟨i_of (by kernel_rfl)⟩
instance u100 : UC Try.prog 100 (Go.TypeDesc.func #[48, 3, 3, 82] #[3, 98] Bool.false) := ⟨Try.underlying100⟩
instance i100 : IC Try.prog 100 1 8 (.nilFunc) := ⟨i_of (by kernel_rfl)⟩
instance u9 : UC Try.prog 9 (Go.TypeDesc.string) := ⟨Try.underlying9⟩
instance i9 : IC Try.prog 9 1 16 (.string ByteArray.empty) := ⟨i_of (by kernel_rfl)⟩
instance u12 : UC Try.prog 12 (Go.TypeDesc.int Go.IntKind.u64) := ⟨Try.underlying12⟩
instance i12 : IC Try.prog 12 1 8 (.int .u64 0) := ⟨i_of (by kernel_rfl)⟩
instance f52_2 : FC Try.prog 52 2 2 33 := ⟨⟨_, _, Try.underlying52, rfl, rfl, rfl, _, IC.size, (by decide)⟩⟩
instance f78_0 : FC Try.prog 78 0 0 48 := ⟨⟨_, _, Try.underlying78, rfl, rfl, rfl, _, IC.size, (by decide)⟩⟩
instance f60_2 : FC Try.prog 60 2 4 58 := ⟨⟨_, _, Try.underlying60, rfl, rfl, rfl, _, IC.size, (by decide)⟩⟩
instance f37_1 : FC Try.prog 37 1 1 33 := ⟨⟨_, _, Try.underlying37, rfl, rfl, rfl, _, IC.size, (by decide)⟩⟩
instance f60_0 : FC Try.prog 60 0 0 56 := ⟨⟨_, _, Try.underlying60, rfl, rfl, rfl, _, IC.size, (by decide)⟩⟩
instance f52_0 : FC Try.prog 52 0 0 3 := ⟨⟨_, _, Try.underlying52, rfl, rfl, rfl, _, IC.size, (by decide)⟩⟩
instance f31_0 : FC Try.prog 31 0 0 29 := ⟨⟨_, _, Try.underlying31, rfl, rfl, rfl, _, IC.size, (by decide)⟩⟩
instance f35_2 : FC Try.prog 35 2 2 3 := ⟨⟨_, _, Try.underlying35, rfl, rfl, rfl, _, IC.size, (by decide)⟩⟩
instance f60_1 : FC Try.prog 60 1 2 57 := ⟨⟨_, _, Try.underlying60, rfl, rfl, rfl, _, IC.size, (by decide)⟩⟩
instance f35_6 : FC Try.prog 35 6 6 33 := ⟨⟨_, _, Try.underlying35, rfl, rfl, rfl, _, IC.size, (by decide)⟩⟩
instance f37_0 : FC Try.prog 37 0 0 3 := ⟨⟨_, _, Try.underlying37, rfl, rfl, rfl, _, IC.size, (by decide)⟩⟩
instance f52_1 : FC Try.prog 52 1 1 3 := ⟨⟨_, _, Try.underlying52, rfl, rfl, rfl, _, IC.size, (by decide)⟩⟩
instance f60_4 : FC Try.prog 60 4 6 4 := ⟨⟨_, _, Try.underlying60, rfl, rfl, rfl, _, IC.size, (by decide)⟩⟩
instance f76_0 : FC Try.prog 76 0 0 74 := ⟨⟨_, _, Try.underlying76, rfl, rfl, rfl, _, IC.size, (by decide)⟩⟩
instance f35_0 : FC Try.prog 35 0 0 3 := ⟨⟨_, _, Try.underlying35, rfl, rfl, rfl, _, IC.size, (by decide)⟩⟩
instance f35_5 : FC Try.prog 35 5 5 3 := ⟨⟨_, _, Try.underlying35, rfl, rfl, rfl, _, IC.size, (by decide)⟩⟩
instance f65_0 : FC Try.prog 65 0 0 3 := ⟨⟨_, _, Try.underlying65, rfl, rfl, rfl, _, IC.size, (by decide)⟩⟩
instance f76_1 : FC Try.prog 76 1 1 3 := ⟨⟨_, _, Try.underlying76, rfl, rfl, rfl, _, IC.size, (by decide)⟩⟩
instance f78_1 : FC Try.prog 78 1 1 3 := ⟨⟨_, _, Try.underlying78, rfl, rfl, rfl, _, IC.size, (by decide)⟩⟩
instance f60_3 : FC Try.prog 60 3 5 3 := ⟨⟨_, _, Try.underlying60, rfl, rfl, rfl, _, IC.size, (by decide)⟩⟩
instance f31_1 : FC Try.prog 31 1 1 29 := ⟨⟨_, _, Try.underlying31, rfl, rfl, rfl, _, IC.size, (by decide)⟩⟩
instance f65_4 : FC Try.prog 65 4 4 33 := ⟨⟨_, _, Try.underlying65, rfl, rfl, rfl, _, IC.size, (by decide)⟩⟩
instance f35_3 : FC Try.prog 35 3 3 3 := ⟨⟨_, _, Try.underlying35, rfl, rfl, rfl, _, IC.size, (by decide)⟩⟩
instance f35_4 : FC Try.prog 35 4 4 3 := ⟨⟨_, _, Try.underlying35, rfl, rfl, rfl, _, IC.size, (by decide)⟩⟩
instance f89_0 : FC Try.prog 89 0 0 33 := ⟨⟨_, _, Try.underlying89, rfl, rfl, rfl, _, IC.size, (by decide)⟩⟩
instance f89_2 : FC Try.prog 89 2 2 3 := ⟨⟨_, _, Try.underlying89, rfl, rfl, rfl, _, IC.size, (by decide)⟩⟩
instance f65_1 : FC Try.prog 65 1 1 3 := ⟨⟨_, _, Try.underlying65, rfl, rfl, rfl, _, IC.size, (by decide)⟩⟩
instance f65_2 : FC Try.prog 65 2 2 3 := ⟨⟨_, _, Try.underlying65, rfl, rfl, rfl, _, IC.size, (by decide)⟩⟩
instance f65_3 : FC Try.prog 65 3 3 3 := ⟨⟨_, _, Try.underlying65, rfl, rfl, rfl, _, IC.size, (by decide)⟩⟩
instance f35_1 : FC Try.prog 35 1 1 3 := ⟨⟨_, _, Try.underlying35, rfl, rfl, rfl, _, IC.size, (by decide)⟩⟩
instance f35_7 : FC Try.prog 35 7 7 3 := ⟨⟨_, _, Try.underlying35, rfl, rfl, rfl, _, IC.size, (by decide)⟩⟩
instance f89_1 : FC Try.prog 89 1 1 5 := ⟨⟨_, _, Try.underlying89, rfl, rfl, rfl, _, IC.size, (by decide)⟩⟩
instance b37 : BC Try.prog 37 [(0, 1), (1, 1)] [.int .i64 0, .slice none 0 0] := ⟨⟨_, _, Try.underlying37, IC.zero, rfl, rfl, fun i f h => by
    match i, h with
    | 0, h => cases h; exact ⟨_, _, rfl, rfl, IC.size⟩
    | 1, h => cases h; exact ⟨_, _, rfl, rfl, IC.size⟩
    | _ + 2, h => cases h⟩⟩
instance b52 : BC Try.prog 52 [(0, 1), (1, 1), (2, 1)] [.int .i64 0, .int .i64 0, .slice none 0 0] := ⟨⟨_, _, Try.underlying52, IC.zero, rfl, rfl, fun i f h => by
    match i, h with
    | 0, h => cases h; exact ⟨_, _, rfl, rfl, IC.size⟩
    | 1, h => cases h; exact ⟨_, _, rfl, rfl, IC.size⟩
    | 2, h => cases h; exact ⟨_, _, rfl, rfl, IC.size⟩
    | _ + 3, h => cases h⟩⟩
instance b35 : BC Try.prog 35 [(0, 1), (1, 1), (2, 1), (3, 1), (4, 1), (5, 1), (6, 1), (7, 1)] [.int .i64 0, .int .i64 0, .int .i64 0, .int .i64 0, .int .i64 0, .int .i64 0, .slice none 0 0, .int .i64 0] := ⟨⟨_, _, Try.underlying35, IC.zero, rfl, rfl, fun i f h => by
    match i, h with
    | 0, h => cases h; exact ⟨_, _, rfl, rfl, IC.size⟩
    | 1, h => cases h; exact ⟨_, _, rfl, rfl, IC.size⟩
    | 2, h => cases h; exact ⟨_, _, rfl, rfl, IC.size⟩
    | 3, h => cases h; exact ⟨_, _, rfl, rfl, IC.size⟩
    | 4, h => cases h; exact ⟨_, _, rfl, rfl, IC.size⟩
    | 5, h => cases h; exact ⟨_, _, rfl, rfl, IC.size⟩
    | 6, h => cases h; exact ⟨_, _, rfl, rfl, IC.size⟩
    | 7, h => cases h; exact ⟨_, _, rfl, rfl, IC.size⟩
    | _ + 8, h => cases h⟩⟩
instance b60 : BC Try.prog 60 [(0, 2), (2, 2), (4, 1), (5, 1), (6, 1)] [.pointer none, .pointer none, .pointer none, .pointer none, .slice none 0 0, .int .i64 0, .bool false] := ⟨⟨_, _, Try.underlying60, IC.zero, rfl, rfl, fun i f h => by
    match i, h with
    | 0, h => cases h; exact ⟨_, _, rfl, rfl, IC.size⟩
    | 1, h => cases h; exact ⟨_, _, rfl, rfl, IC.size⟩
    | 2, h => cases h; exact ⟨_, _, rfl, rfl, IC.size⟩
    | 3, h => cases h; exact ⟨_, _, rfl, rfl, IC.size⟩
    | 4, h => cases h; exact ⟨_, _, rfl, rfl, IC.size⟩
    | _ + 5, h => cases h⟩⟩
instance b78 : BC Try.prog 78 [(0, 1), (1, 1)] [.slice none 0 0, .int .i64 0] := ⟨⟨_, _, Try.underlying78, IC.zero, rfl, rfl, fun i f h => by
    match i, h with
    | 0, h => cases h; exact ⟨_, _, rfl, rfl, IC.size⟩
    | 1, h => cases h; exact ⟨_, _, rfl, rfl, IC.size⟩
    | _ + 2, h => cases h⟩⟩
instance b31 : BC Try.prog 31 [(0, 1), (1, 1)] [.slice none 0 0, .slice none 0 0] := ⟨⟨_, _, Try.underlying31, IC.zero, rfl, rfl, fun i f h => by
    match i, h with
    | 0, h => cases h; exact ⟨_, _, rfl, rfl, IC.size⟩
    | 1, h => cases h; exact ⟨_, _, rfl, rfl, IC.size⟩
    | _ + 2, h => cases h⟩⟩
instance b65 : BC Try.prog 65 [(0, 1), (1, 1), (2, 1), (3, 1), (4, 1)] [.int .i64 0, .int .i64 0, .int .i64 0, .int .i64 0, .slice none 0 0] := ⟨⟨_, _, Try.underlying65, IC.zero, rfl, rfl, fun i f h => by
    match i, h with
    | 0, h => cases h; exact ⟨_, _, rfl, rfl, IC.size⟩
    | 1, h => cases h; exact ⟨_, _, rfl, rfl, IC.size⟩
    | 2, h => cases h; exact ⟨_, _, rfl, rfl, IC.size⟩
    | 3, h => cases h; exact ⟨_, _, rfl, rfl, IC.size⟩
    | 4, h => cases h; exact ⟨_, _, rfl, rfl, IC.size⟩
    | _ + 5, h => cases h⟩⟩
instance b76 : BC Try.prog 76 [(0, 1), (1, 1)] [.map none, .int .i64 0] := ⟨⟨_, _, Try.underlying76, IC.zero, rfl, rfl, fun i f h => by
    match i, h with
    | 0, h => cases h; exact ⟨_, _, rfl, rfl, IC.size⟩
    | 1, h => cases h; exact ⟨_, _, rfl, rfl, IC.size⟩
    | _ + 2, h => cases h⟩⟩
instance b89 : BC Try.prog 89 [(0, 1), (1, 1), (2, 1)] [.slice none 0 0, .int .u8 0, .int .i64 0] := ⟨⟨_, _, Try.underlying89, IC.zero, rfl, rfl, fun i f h => by
    match i, h with
    | 0, h => cases h; exact ⟨_, _, rfl, rfl, IC.size⟩
    | 1, h => cases h; exact ⟨_, _, rfl, rfl, IC.size⟩
    | 2, h => cases h; exact ⟨_, _, rfl, rfl, IC.size⟩
    | _ + 3, h => cases h⟩⟩
instance b64 : BC Try.prog 64 [(0, 1), (1, 1), (2, 1), (3, 1), (4, 1)] [.int .i64 0, .int .i64 0, .int .i64 0, .int .i64 0, .slice none 0 0] := ⟨⟨_, _, Try.underlying64, IC.zero, rfl, rfl, fun i f h => by
    match i, h with
    | 0, h => cases h; exact ⟨_, _, rfl, rfl, IC.size⟩
    | 1, h => cases h; exact ⟨_, _, rfl, rfl, IC.size⟩
    | 2, h => cases h; exact ⟨_, _, rfl, rfl, IC.size⟩
    | 3, h => cases h; exact ⟨_, _, rfl, rfl, IC.size⟩
    | 4, h => cases h; exact ⟨_, _, rfl, rfl, IC.size⟩
    | _ + 5, h => cases h⟩⟩
instance b8 : BC Try.prog 8 [(0, 1), (1, 1), (2, 1), (3, 1)] [.int .i64 0, .int .i64 0, .bool false, .int .u8 0] := ⟨⟨_, _, Try.underlying8, IC.zero, rfl, rfl, fun i f h => by
    match i, h with
    | 0, h => cases h; exact ⟨_, _, rfl, rfl, IC.size⟩
    | 1, h => cases h; exact ⟨_, _, rfl, rfl, IC.size⟩
    | 2, h => cases h; exact ⟨_, _, rfl, rfl, IC.size⟩
    | 3, h => cases h; exact ⟨_, _, rfl, rfl, IC.size⟩
    | _ + 4, h => cases h⟩⟩
instance b7 : BC Try.prog 7 [(0, 1), (1, 1), (2, 1), (3, 1)] [.int .i64 0, .int .i64 0, .bool false, .int .u8 0] := ⟨⟨_, _, Try.underlying7, IC.zero, rfl, rfl, fun i f h => by
    match i, h with
    | 0, h => cases h; exact ⟨_, _, rfl, rfl, IC.size⟩
    | 1, h => cases h; exact ⟨_, _, rfl, rfl, IC.size⟩
    | 2, h => cases h; exact ⟨_, _, rfl, rfl, IC.size⟩
    | 3, h => cases h; exact ⟨_, _, rfl, rfl, IC.size⟩
    | _ + 4, h => cases h⟩⟩
instance b30 : BC Try.prog 30 [(0, 1), (1, 1)] [.slice none 0 0, .slice none 0 0] := ⟨⟨_, _, Try.underlying30, IC.zero, rfl, rfl, fun i f h => by
    match i, h with
    | 0, h => cases h; exact ⟨_, _, rfl, rfl, IC.size⟩
    | 1, h => cases h; exact ⟨_, _, rfl, rfl, IC.size⟩
    | _ + 2, h => cases h⟩⟩
instance e3 : EC Try.prog 3 := ⟨Enters.mk Try.func3 (by kernel_rfl) (by kernel_rfl)⟩
instance e4 : EC Try.prog 4 := ⟨Enters.mk Try.func4 (by kernel_rfl) (by kernel_rfl)⟩
instance e5 : EC Try.prog 5 := ⟨Enters.mk Try.func5 (by kernel_rfl) (by kernel_rfl)⟩
instance e6 : EC Try.prog 6 := ⟨Enters.mk Try.func6 (by kernel_rfl) (by kernel_rfl)⟩
instance e7 : EC Try.prog 7 := ⟨Enters.mk Try.func7 (by kernel_rfl) (by kernel_rfl)⟩
instance e8 : EC Try.prog 8 := ⟨Enters.mk Try.func8 (by kernel_rfl) (by kernel_rfl)⟩
instance e9 : EC Try.prog 9 := ⟨Enters.mk Try.func9 (by kernel_rfl) (by kernel_rfl)⟩
instance e10 : EC Try.prog 10 := ⟨Enters.mk Try.func10 (by kernel_rfl) (by kernel_rfl)⟩
instance e11 : EC Try.prog 11 := ⟨Enters.mk Try.func11 (by kernel_rfl) (by kernel_rfl)⟩
instance e12 : EC Try.prog 12 := ⟨Enters.mk Try.func12 (by kernel_rfl) (by kernel_rfl)⟩
instance e13 : EC Try.prog 13 := ⟨Enters.mk Try.func13 (by kernel_rfl) (by kernel_rfl)⟩
instance e14 : EC Try.prog 14 := ⟨Enters.mk Try.func14 (by kernel_rfl) (by kernel_rfl)⟩
instance e15 : EC Try.prog 15 := ⟨Enters.mk Try.func15 (by kernel_rfl) (by kernel_rfl)⟩
instance e16 : EC Try.prog 16 := ⟨Enters.mk Try.func16 (by kernel_rfl) (by kernel_rfl)⟩
instance e17 : EC Try.prog 17 := ⟨Enters.mk Try.func17 (by kernel_rfl) (by kernel_rfl)⟩
instance e18 : EC Try.prog 18 := ⟨Enters.mk Try.func18 (by kernel_rfl) (by kernel_rfl)⟩
instance e19 : EC Try.prog 19 := ⟨Enters.mk Try.func19 (by kernel_rfl) (by kernel_rfl)⟩
instance e20 : EC Try.prog 20 := ⟨Enters.mk Try.func20 (by kernel_rfl) (by kernel_rfl)⟩
instance e21 : EC Try.prog 21 := ⟨Enters.mk Try.func21 (by kernel_rfl) (by kernel_rfl)⟩
instance e22 : EC Try.prog 22 := ⟨Enters.mk Try.func22 (by kernel_rfl) (by kernel_rfl)⟩
instance e23 : EC Try.prog 23 := ⟨Enters.mk Try.func23 (by kernel_rfl) (by kernel_rfl)⟩
instance e24 : EC Try.prog 24 := ⟨Enters.mk Try.func24 (by kernel_rfl) (by kernel_rfl)⟩
instance e25 : EC Try.prog 25 := ⟨Enters.mk Try.func25 (by kernel_rfl) (by kernel_rfl)⟩
instance e26 : EC Try.prog 26 := ⟨Enters.mk Try.func26 (by kernel_rfl) (by kernel_rfl)⟩
instance e27 : EC Try.prog 27 := ⟨Enters.mk Try.func27 (by kernel_rfl) (by kernel_rfl)⟩
instance e28 : EC Try.prog 28 := ⟨Enters.mk Try.func28 (by kernel_rfl) (by kernel_rfl)⟩
instance e29 : EC Try.prog 29 := ⟨Enters.mk Try.func29 (by kernel_rfl) (by kernel_rfl)⟩
instance e30 : EC Try.prog 30 := ⟨Enters.mk Try.func30 (by kernel_rfl) (by kernel_rfl)⟩
instance e31 : EC Try.prog 31 := ⟨Enters.mk Try.func31 (by kernel_rfl) (by kernel_rfl)⟩
instance e32 : EC Try.prog 32 := ⟨Enters.mk Try.func32 (by kernel_rfl) (by kernel_rfl)⟩
instance e33 : EC Try.prog 33 := ⟨Enters.mk Try.func33 (by kernel_rfl) (by kernel_rfl)⟩
instance e34 : EC Try.prog 34 := ⟨Enters.mk Try.func34 (by kernel_rfl) (by kernel_rfl)⟩
instance e35 : EC Try.prog 35 := ⟨Enters.mk Try.func35 (by kernel_rfl) (by kernel_rfl)⟩
instance e36 : EC Try.prog 36 := ⟨Enters.mk Try.func36 (by kernel_rfl) (by kernel_rfl)⟩
instance e37 : EC Try.prog 37 := ⟨Enters.mk Try.func37 (by kernel_rfl) (by kernel_rfl)⟩
instance e38 : EC Try.prog 38 := ⟨Enters.mk Try.func38 (by kernel_rfl) (by kernel_rfl)⟩
instance e39 : EC Try.prog 39 := ⟨Enters.mk Try.func39 (by kernel_rfl) (by kernel_rfl)⟩
instance e40 : EC Try.prog 40 := ⟨Enters.mk Try.func40 (by kernel_rfl) (by kernel_rfl)⟩
instance e41 : EC Try.prog 41 := ⟨Enters.mk Try.func41 (by kernel_rfl) (by kernel_rfl)⟩
instance e42 : EC Try.prog 42 := ⟨Enters.mk Try.func42 (by kernel_rfl) (by kernel_rfl)⟩
instance e43 : EC Try.prog 43 := ⟨Enters.mk Try.func43 (by kernel_rfl) (by kernel_rfl)⟩
instance e44 : EC Try.prog 44 := ⟨Enters.mk Try.func44 (by kernel_rfl) (by kernel_rfl)⟩
instance e45 : EC Try.prog 45 := ⟨Enters.mk Try.func45 (by kernel_rfl) (by kernel_rfl)⟩
instance e46 : EC Try.prog 46 := ⟨Enters.mk Try.func46 (by kernel_rfl) (by kernel_rfl)⟩
instance e47 : EC Try.prog 47 := ⟨Enters.mk Try.func47 (by kernel_rfl) (by kernel_rfl)⟩
instance e48 : EC Try.prog 48 := ⟨Enters.mk Try.func48 (by kernel_rfl) (by kernel_rfl)⟩
end Go.Proofs.Ytbfmmgbfliebhaa
