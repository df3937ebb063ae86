import Derived.Test.YtmdkboojafbpcaaDoorEngO
import Derived.Test.YtmdkboojafbpcaaDoorProg
namespace Go.Proofs.YtmdkboojafbpcaaDoor
open Go Go.Proofs
set_option maxRecDepth 20000
theorem i_of {P : Program} {t s b : Nat} {z : Value} (h1 : (P.info? t).map (fun i => (i.size, i.bytes, i.zero)) = some (s, b, some z)) : ∃ i, P.info? t = some i ∧ i.size = s ∧ i.bytes = b ∧ i.zero = some z := by
  simp only [Option.map_eq_some_iff, Prod.mk.injEq] at h1
  obtain ⟨j, h3, h4, h5, h6⟩ := h1
  exact ⟨j, h3, h4, h5, h6⟩
instance u3 : UC Tryd.prog 3 (Go.TypeDesc.int Go.IntKind.i64) := ⟨Tryd.underlying3⟩
instance i3 : IC Tryd.prog 3 1 8 (.int .i64 0) := ⟨i_of (by kernel_rfl)⟩
instance u23 : UC Tryd.prog 23 (Go.TypeDesc.struct #[{ name := "Clients", type := 3, offset := 0, embedded := Bool.false, tag := "", pkgPath := "", byteOffset := 0 }, { name := "Window", type := 3, offset := 1, embedded := Bool.false, tag := "", pkgPath := "", byteOffset := 8 }, { name := "Places", type := 3, offset := 2, embedded := Bool.false, tag := "", pkgPath := "", byteOffset := 16 }, { name := "Cache", type := 3, offset := 3, embedded := Bool.false, tag := "", pkgPath := "", byteOffset := 24 }, { name := "Inodes", type := 3, offset := 4, embedded := Bool.false, tag := "", pkgPath := "", byteOffset := 32 }, { name := "Quota", type := 3, offset := 5, embedded := Bool.false, tag := "", pkgPath := "", byteOffset := 40 }, { name := "Data", type := 3, offset := 6, embedded := Bool.false, tag := "", pkgPath := "", byteOffset := 48 }, { name := "Journal", type := 3, offset := 7, embedded := Bool.false, tag := "", pkgPath := "", byteOffset := 56 }]) := ⟨Tryd.underlying23⟩
instance i23 : IC Tryd.prog 23 8 64 (.agg #[.int .i64 0, .int .i64 0, .int .i64 0, .int .i64 0, .int .i64 0, .int .i64 0, .int .i64 0, .int .i64 0]) := ⟨i_of (by kernel_rfl)⟩
instance u35 : UC Tryd.prog 35 (Go.TypeDesc.slice 5) := ⟨Tryd.underlying35⟩
instance i35 : IC Tryd.prog 35 1 24 (.slice none 0 0) := ⟨i_of (by kernel_rfl)⟩
instance u26 : UC Tryd.prog 26 (Go.TypeDesc.struct #[{ name := "Boot", type := 3, offset := 0, embedded := Bool.false, tag := "", pkgPath := "", byteOffset := 0 }, { name := "Journal", type := 3, offset := 1, embedded := Bool.false, tag := "", pkgPath := "", byteOffset := 8 }, { name := "JournalLen", type := 3, offset := 2, embedded := Bool.false, tag := "", pkgPath := "", byteOffset := 16 }, { name := "Ledger", type := 3, offset := 3, embedded := Bool.false, tag := "", pkgPath := "", byteOffset := 24 }, { name := "LedgerLen", type := 3, offset := 4, embedded := Bool.false, tag := "", pkgPath := "", byteOffset := 32 }, { name := "Bits", type := 3, offset := 5, embedded := Bool.false, tag := "", pkgPath := "", byteOffset := 40 }, { name := "BitsLen", type := 3, offset := 6, embedded := Bool.false, tag := "", pkgPath := "", byteOffset := 48 }, { name := "Table", type := 3, offset := 7, embedded := Bool.false, tag := "", pkgPath := "", byteOffset := 56 }, { name := "TableLen", type := 3, offset := 8, embedded := Bool.false, tag := "", pkgPath := "", byteOffset := 64 }, { name := "Data", type := 3, offset := 9, embedded := Bool.false, tag := "", pkgPath := "", byteOffset := 72 }, { name := "DataLen", type := 3, offset := 10, embedded := Bool.false, tag := "", pkgPath := "", byteOffset := 80 }, { name := "Total", type := 3, offset := 11, embedded := Bool.false, tag := "", pkgPath := "", byteOffset := 88 }, { name := "Shape", type := 23, offset := 12, embedded := Bool.false, tag := "", pkgPath := "", byteOffset := 96 }]) := ⟨Tryd.underlying26⟩
instance i26 : IC Tryd.prog 26 20 160 (.agg #[.int .i64 0, .int .i64 0, .int .i64 0, .int .i64 0, .int .i64 0, .int .i64 0, .int .i64 0, .int .i64 0, .int .i64 0, .int .i64 0, .int .i64 0, .int .i64 0, .int .i64 0, .int .i64 0, .int .i64 0, .int .i64 0, .int .i64 0, .int .i64 0, .int .i64 0, .int .i64 0]) := ⟨i_of (by kernel_rfl)⟩
instance u1 : UC Tryd.prog 1 (Go.TypeDesc.func #[] #[] Bool.false) := ⟨Tryd.underlying1⟩
instance i1 : IC Tryd.prog 1 1 8 (.nilFunc) := ⟨i_of (by kernel_rfl)⟩
instance u5 : UC Tryd.prog 5 (Go.TypeDesc.int Go.IntKind.u8) := ⟨Tryd.underlying5⟩
instance i5 : IC Tryd.prog 5 1 1 (.int .u8 0) := ⟨i_of (by kernel_rfl)⟩
instance u27 : UC Tryd.prog 27 (Go.TypeDesc.int Go.IntKind.i64) := ⟨Tryd.underlying27⟩
instance i27 : IC Tryd.prog 27 1 8 (.int .i64 0) := ⟨i_of (by kernel_rfl)⟩
instance u4 : UC Tryd.prog 4 (Go.TypeDesc.bool) := ⟨Tryd.underlying4⟩
instance i4 : IC Tryd.prog 4 1 1 (.bool false) := ⟨i_of (by kernel_rfl)⟩
instance u70 : UC Tryd.prog 70 (Go.TypeDesc.int Go.IntKind.u64) := ⟨Tryd.underlying70⟩
instance i70 : IC Tryd.prog 70 1 8 (.int .u64 0) := ⟨i_of (by kernel_rfl)⟩
instance u50 : UC Tryd.prog 50 (Go.TypeDesc.slice 3) := ⟨Tryd.underlying50⟩
instance i50 : IC Tryd.prog 50 1 24 (.slice none 0 0) := ⟨i_of (by kernel_rfl)⟩
instance u2 : UC Tryd.prog 2 (Go.TypeDesc.int Go.IntKind.i64) := ⟨Tryd.underlying2⟩
instance i2 : IC Tryd.prog 2 1 8 (.int .i64 0) := ⟨i_of (by kernel_rfl)⟩
instance u8 : UC Tryd.prog 8 (Go.TypeDesc.struct #[{ name := "x", type := 2, offset := 0, embedded := Bool.false, tag := "", pkgPath := "runtime", byteOffset := 0 }, { name := "y", type := 3, offset := 1, embedded := Bool.false, tag := "", pkgPath := "runtime", byteOffset := 8 }, { name := "signed", type := 4, offset := 2, embedded := Bool.false, tag := "", pkgPath := "runtime", byteOffset := 16 }, { name := "code", type := 6, offset := 3, embedded := Bool.false, tag := "", pkgPath := "runtime", byteOffset := 17 }]) := ⟨Tryd.underlying8⟩
instance i8 : IC Tryd.prog 8 4 24 (.agg #[.int .i64 0, .int .i64 0, .bool false, .int .u8 0]) := ⟨i_of (by kernel_rfl)⟩
instance u62 : UC Tryd.prog 62 (Go.TypeDesc.array 8 3) := ⟨Tryd.underlying62⟩
instance i62 : IC Tryd.prog 62 8 64 (.agg #[.int .i64 0, .int .i64 0, .int .i64 0, .int .i64 0, .int .i64 0, .int .i64 0, .int .i64 0, .int .i64 0]) := ⟨i_of (by kernel_rfl)⟩
instance u7 : UC Tryd.prog 7 (Go.TypeDesc.struct #[{ name := "x", type := 2, offset := 0, embedded := Bool.false, tag := "", pkgPath := "runtime", byteOffset := 0 }, { name := "y", type := 3, offset := 1, embedded := Bool.false, tag := "", pkgPath := "runtime", byteOffset := 8 }, { name := "signed", type := 4, offset := 2, embedded := Bool.false, tag := "", pkgPath := "runtime", byteOffset := 16 }, { name := "code", type := 6, offset := 3, embedded := Bool.false, tag := "", pkgPath := "runtime", byteOffset := 17 }]) := ⟨Tryd.underlying7⟩
instance i7 : IC Tryd.prog 7 4 24 (.agg #[.int .i64 0, .int .i64 0, .bool false, .int .u8 0]) := ⟨i_of (by kernel_rfl)⟩
instance u6 : UC Tryd.prog 6 (Go.TypeDesc.int Go.IntKind.u8) := ⟨Tryd.underlying6⟩
instance i6 : IC Tryd.prog 6 1 1 (.int .u8 0) := ⟨i_of (by kernel_rfl)⟩
instance u75 : UC Tryd.prog 75 (Go.TypeDesc.pointer 85) := ⟨Tryd.underlying75⟩
instance i75 : IC Tryd.prog 75 1 8 (.pointer none) := ⟨i_of (by kernel_rfl)⟩
instance u85 : UC Tryd.prog 85 (Go.TypeDesc.struct #[{ name := "b", type := 35, offset := 0, embedded := Bool.false, tag := "", pkgPath := "annex/bits", byteOffset := 0 }, { name := "at", type := 3, offset := 1, embedded := Bool.false, tag := "", pkgPath := "annex/bits", byteOffset := 24 }, { name := "next", type := 3, offset := 2, embedded := Bool.false, tag := "", pkgPath := "annex/bits", byteOffset := 32 }, { name := "err", type := 27, offset := 3, embedded := Bool.false, tag := "", pkgPath := "annex/bits", byteOffset := 40 }]) := ⟨Tryd.underlying85⟩
instance i85 : IC Tryd.prog 85 4 48 (.agg #[.slice none 0 0, .int .i64 0, .int .i64 0, .int .i64 0]) := ⟨i_of (by kernel_rfl)⟩
instance u57 : UC Tryd.prog 57 (Go.TypeDesc.slice 35) := ⟨Tryd.underlying57⟩
instance i57 : IC Tryd.prog 57 1 24 (.slice none 0 0) := ⟨i_of (by kernel_rfl)⟩
instance u59 : UC Tryd.prog 59 (Go.TypeDesc.struct #[{ name := "lists", type := 57, offset := 0, embedded := Bool.false, tag := "", pkgPath := "annex/annexlaw6", byteOffset := 0 }, { name := "marks", type := 35, offset := 1, embedded := Bool.false, tag := "", pkgPath := "annex/annexlaw6", byteOffset := 24 }]) := ⟨Tryd.underlying59⟩
instance i59 : IC Tryd.prog 59 2 48 (.agg #[.slice none 0 0, .slice none 0 0]) := ⟨i_of (by kernel_rfl)⟩
instance u9 : UC Tryd.prog 9 (Go.TypeDesc.string) := ⟨Tryd.underlying9⟩
instance i9 : IC Tryd.prog 9 1 16 (.string ByteArray.empty) := ⟨i_of (by kernel_rfl)⟩
instance u12 : UC Tryd.prog 12 (Go.TypeDesc.int Go.IntKind.u64) := ⟨Tryd.underlying12⟩
instance i12 : IC Tryd.prog 12 1 8 (.int .u64 0) := ⟨i_of (by kernel_rfl)⟩
instance u11 : UC Tryd.prog 11 (Go.TypeDesc.string) := ⟨Tryd.underlying11⟩
instance i11 : IC Tryd.prog 11 1 16 (.string ByteArray.empty) := ⟨i_of (by kernel_rfl)⟩
instance u56 : UC Tryd.prog 56 (Go.TypeDesc.pointer 59) := ⟨Tryd.underlying56⟩
instance i56 : IC Tryd.prog 56 1 8 (.pointer none) := ⟨i_of (by kernel_rfl)⟩
instance u89 : UC Tryd.prog 89 (Go.TypeDesc.interface #[("Error", 127)]) := ⟨Tryd.underlying89⟩
instance i89 : IC Tryd.prog 89 1 16 (.nilIface) := ⟨i_of (by kernel_rfl)⟩
instance u55 : UC Tryd.prog 55 (Go.TypeDesc.slice 23) := ⟨Tryd.underlying55⟩
instance i55 : IC Tryd.prog 55 1 24 (.slice none 0 0) := ⟨i_of (by kernel_rfl)⟩
instance u10 : UC Tryd.prog 10 (Go.TypeDesc.string) := ⟨Tryd.underlying10⟩
instance i10 : IC Tryd.prog 10 1 16 (.string ByteArray.empty) := ⟨i_of (by kernel_rfl)⟩
instance u65 : UC Tryd.prog 65 (Go.TypeDesc.array 8 64) := ⟨Tryd.underlying65⟩
instance i65 : IC Tryd.prog 65 16 128 (.agg #[.int .i64 0, .int .i64 0, .int .i64 0, .int .i64 0, .int .i64 0, .int .i64 0, .int .i64 0, .int .i64 0, .int .i64 0, .int .i64 0, .int .i64 0, .int .i64 0, .int .i64 0, .int .i64 0, .int .i64 0, .int .i64 0]) := ⟨i_of (by kernel_rfl)⟩
instance u82 : UC Tryd.prog 82 (Go.TypeDesc.array 7 3) := ⟨Tryd.underlying82⟩
instance i82 : IC Tryd.prog 82 7 56 (.agg #[.int .i64 0, .int .i64 0, .int .i64 0, .int .i64 0, .int .i64 0, .int .i64 0, .int .i64 0]) := ⟨i_of (by kernel_rfl)⟩
instance u61 : UC Tryd.prog 61 (Go.TypeDesc.func #[55] #[4] Bool.false) := ⟨Tryd.underlying61⟩
instance i61 : IC Tryd.prog 61 1 8 (.nilFunc) := ⟨i_of (by kernel_rfl)⟩
instance u91 : UC Tryd.prog 91 (Go.TypeDesc.struct #[{ name := "code", type := 27, offset := 0, embedded := Bool.false, tag := "", pkgPath := "annex/bits", byteOffset := 0 }]) := ⟨Tryd.underlying91⟩
instance i91 : IC Tryd.prog 91 1 8 (.agg #[.int .i64 0]) := ⟨i_of (by kernel_rfl)⟩
instance u20 : UC Tryd.prog 20 (Go.TypeDesc.interface #[]) := ⟨Tryd.underlying20⟩
instance i20 : IC Tryd.prog 20 1 16 (.nilIface) := ⟨i_of (by kernel_rfl)⟩
instance u78 : UC Tryd.prog 78 (Go.TypeDesc.func #[] #[70] Bool.false) := ⟨Tryd.underlying78⟩
instance i78 : IC Tryd.prog 78 1 8 (.nilFunc) := ⟨i_of (by kernel_rfl)⟩
instance u88 : UC Tryd.prog 88 (Go.TypeDesc.interface #[("Error", 127)]) := ⟨Tryd.underlying88⟩
instance i88 : IC Tryd.prog 88 1 16 (.nilIface) := ⟨i_of (by kernel_rfl)⟩
instance u83 : UC Tryd.prog 83 (Go.TypeDesc.func #[70, 35] #[70] Bool.false) := ⟨Tryd.underlying83⟩
instance i83 : IC Tryd.prog 83 1 8 (.nilFunc) := ⟨i_of (by kernel_rfl)⟩
instance u63 : UC Tryd.prog 63 (Go.TypeDesc.func #[23] #[62] Bool.false) := ⟨Tryd.underlying63⟩
instance i63 : IC Tryd.prog 63 1 8 (.nilFunc) := ⟨i_of (by kernel_rfl)⟩
instance u16 : UC Tryd.prog 16 (Go.TypeDesc.pointer 132) := ⟨Tryd.underlying16⟩
instance i16 : IC Tryd.prog 16 1 8 (.pointer none) := ⟨i_of (by kernel_rfl)⟩
instance u64 : UC Tryd.prog 64 (Go.TypeDesc.array 2 3) := ⟨Tryd.underlying64⟩
instance i64 : IC Tryd.prog 64 2 16 (.agg #[.int .i64 0, .int .i64 0]) := ⟨i_of (by kernel_rfl)⟩
instance u80 : UC Tryd.prog 80 (Go.TypeDesc.func #[35, 3, 3] #[70] Bool.false) := ⟨Tryd.underlying80⟩
instance i80 : IC Tryd.prog 80 1 8 (.nilFunc) := ⟨i_of (by kernel_rfl)⟩
instance u58 : UC Tryd.prog 58 (Go.TypeDesc.struct #[{ name := "lists", type := 57, offset := 0, embedded := Bool.false, tag := "", pkgPath := "annex/annexlaw6", byteOffset := 0 }, { name := "marks", type := 35, offset := 1, embedded := Bool.false, tag := "", pkgPath := "annex/annexlaw6", byteOffset := 24 }]) := ⟨Tryd.underlying58⟩
instance i58 : IC Tryd.prog 58 2 48 (.agg #[.slice none 0 0, .slice none 0 0]) := ⟨i_of (by kernel_rfl)⟩
instance u92 : UC Tryd.prog 92 (Go.TypeDesc.func #[89, 89] #[4] Bool.false) := ⟨Tryd.underlying92⟩
instance i92 : IC Tryd.prog 92 1 8 (.nilFunc) := ⟨i_of (by kernel_rfl)⟩
instance u93 : UC Tryd.prog 93 (Go.TypeDesc.func #[89, 20] #[4] Bool.false) := ⟨Tryd.underlying93⟩
instance i93 : IC Tryd.prog 93 1 8 (.nilFunc) := ⟨i_of (by kernel_rfl)⟩
instance u29 : UC Tryd.prog 29 (Go.TypeDesc.func #[23] #[26, 27] Bool.false) := ⟨Tryd.underlying29⟩
instance i29 : IC Tryd.prog 29 1 8 (.nilFunc) := ⟨i_of (by kernel_rfl)⟩
instance u25 : UC Tryd.prog 25 (Go.TypeDesc.struct #[{ name := "Boot", type := 3, offset := 0, embedded := Bool.false, tag := "", pkgPath := "", byteOffset := 0 }, { name := "Journal", type := 3, offset := 1, embedded := Bool.false, tag := "", pkgPath := "", byteOffset := 8 }, { name := "JournalLen", type := 3, offset := 2, embedded := Bool.false, tag := "", pkgPath := "", byteOffset := 16 }, { name := "Ledger", type := 3, offset := 3, embedded := Bool.false, tag := "", pkgPath := "", byteOffset := 24 }, { name := "LedgerLen", type := 3, offset := 4, embedded := Bool.false, tag := "", pkgPath := "", byteOffset := 32 }, { name := "Bits", type := 3, offset := 5, embedded := Bool.false, tag := "", pkgPath := "", byteOffset := 40 }, { name := "BitsLen", type := 3, offset := 6, embedded := Bool.false, tag := "", pkgPath := "", byteOffset := 48 }, { name := "Table", type := 3, offset := 7, embedded := Bool.false, tag := "", pkgPath := "", byteOffset := 56 }, { name := "TableLen", type := 3, offset := 8, embedded := Bool.false, tag := "", pkgPath := "", byteOffset := 64 }, { name := "Data", type := 3, offset := 9, embedded := Bool.false, tag := "", pkgPath := "", byteOffset := 72 }, { name := "DataLen", type := 3, offset := 10, embedded := Bool.false, tag := "", pkgPath := "", byteOffset := 80 }, { name := "Total", type := 3, offset := 11, embedded := Bool.false, tag := "", pkgPath := "", byteOffset := 88 }, { name := "Shape", type := 23, offset := 12, embedded := Bool.false, tag := "", pkgPath := "", byteOffset := 96 }]) := ⟨Tryd.underlying25⟩
instance i25 : IC Tryd.prog 25 20 160 (.agg #[.int .i64 0, .int .i64 0, .int .i64 0, .int .i64 0, .int .i64 0, .int .i64 0, .int .i64 0, .int .i64 0, .int .i64 0, .int .i64 0, .int .i64 0, .int .i64 0, .int .i64 0, .int .i64 0, .int .i64 0, .int .i64 0, .int .i64 0, .int .i64 0, .int .i64 0, .int .i64 0]) := ⟨i_of (by kernel_rfl)⟩
instance u54 : UC Tryd.prog 54 (Go.TypeDesc.func #[23, 3, 3] #[4] Bool.false) := ⟨Tryd.underlying54⟩
instance i54 : IC Tryd.prog 54 1 8 (.nilFunc) := ⟨i_of (by kernel_rfl)⟩
instance u139 : UC Tryd.prog 139 (Go.TypeDesc.int Go.IntKind.i32) := ⟨Tryd.underlying139⟩
instance i139 : IC Tryd.prog 139 1 4 (.int .i32 0) := ⟨i_of (by kernel_rfl)⟩
instance u94 : UC Tryd.prog 94 (Go.TypeDesc.pointer 91) := ⟨Tryd.underlying94⟩
instance i94 : IC Tryd.prog 94 1 8 (.pointer none) := ⟨i_of (by kernel_rfl)⟩
instance u95 : UC Tryd.prog 95 (Go.TypeDesc.int Go.IntKind.u64) := ⟨Tryd.underlying95⟩
instance i95 : IC Tryd.prog 95 1 8 (.int .u64 0) := ⟨i_of (by kernel_rfl)⟩
instance f23_4 : FC Tryd.prog 23 4 4 3 := ⟨⟨_, _, Tryd.underlying23, rfl, rfl, rfl, _, IC.size, (by decide)⟩⟩
instance f23_6 : FC Tryd.prog 23 6 6 3 := ⟨⟨_, _, Tryd.underlying23, rfl, rfl, rfl, _, IC.size, (by decide)⟩⟩
instance f26_12 : FC Tryd.prog 26 12 12 23 := ⟨⟨_, _, Tryd.underlying26, rfl, rfl, rfl, _, IC.size, (by decide)⟩⟩
instance f26_11 : FC Tryd.prog 26 11 11 3 := ⟨⟨_, _, Tryd.underlying26, rfl, rfl, rfl, _, IC.size, (by decide)⟩⟩
instance f23_5 : FC Tryd.prog 23 5 5 3 := ⟨⟨_, _, Tryd.underlying23, rfl, rfl, rfl, _, IC.size, (by decide)⟩⟩
instance f23_3 : FC Tryd.prog 23 3 3 3 := ⟨⟨_, _, Tryd.underlying23, rfl, rfl, rfl, _, IC.size, (by decide)⟩⟩
instance f85_2 : FC Tryd.prog 85 2 2 3 := ⟨⟨_, _, Tryd.underlying85, rfl, rfl, rfl, _, IC.size, (by decide)⟩⟩
instance f26_3 : FC Tryd.prog 26 3 3 3 := ⟨⟨_, _, Tryd.underlying26, rfl, rfl, rfl, _, IC.size, (by decide)⟩⟩
instance f26_5 : FC Tryd.prog 26 5 5 3 := ⟨⟨_, _, Tryd.underlying26, rfl, rfl, rfl, _, IC.size, (by decide)⟩⟩
instance f26_7 : FC Tryd.prog 26 7 7 3 := ⟨⟨_, _, Tryd.underlying26, rfl, rfl, rfl, _, IC.size, (by decide)⟩⟩
instance f26_9 : FC Tryd.prog 26 9 9 3 := ⟨⟨_, _, Tryd.underlying26, rfl, rfl, rfl, _, IC.size, (by decide)⟩⟩
instance f26_10 : FC Tryd.prog 26 10 10 3 := ⟨⟨_, _, Tryd.underlying26, rfl, rfl, rfl, _, IC.size, (by decide)⟩⟩
instance f23_7 : FC Tryd.prog 23 7 7 3 := ⟨⟨_, _, Tryd.underlying23, rfl, rfl, rfl, _, IC.size, (by decide)⟩⟩
instance f26_1 : FC Tryd.prog 26 1 1 3 := ⟨⟨_, _, Tryd.underlying26, rfl, rfl, rfl, _, IC.size, (by decide)⟩⟩
instance f26_4 : FC Tryd.prog 26 4 4 3 := ⟨⟨_, _, Tryd.underlying26, rfl, rfl, rfl, _, IC.size, (by decide)⟩⟩
instance f26_6 : FC Tryd.prog 26 6 6 3 := ⟨⟨_, _, Tryd.underlying26, rfl, rfl, rfl, _, IC.size, (by decide)⟩⟩
instance f26_8 : FC Tryd.prog 26 8 8 3 := ⟨⟨_, _, Tryd.underlying26, rfl, rfl, rfl, _, IC.size, (by decide)⟩⟩
instance f59_0 : FC Tryd.prog 59 0 0 57 := ⟨⟨_, _, Tryd.underlying59, rfl, rfl, rfl, _, IC.size, (by decide)⟩⟩
instance f26_0 : FC Tryd.prog 26 0 0 3 := ⟨⟨_, _, Tryd.underlying26, rfl, rfl, rfl, _, IC.size, (by decide)⟩⟩
instance f26_2 : FC Tryd.prog 26 2 2 3 := ⟨⟨_, _, Tryd.underlying26, rfl, rfl, rfl, _, IC.size, (by decide)⟩⟩
instance f23_0 : FC Tryd.prog 23 0 0 3 := ⟨⟨_, _, Tryd.underlying23, rfl, rfl, rfl, _, IC.size, (by decide)⟩⟩
instance f23_1 : FC Tryd.prog 23 1 1 3 := ⟨⟨_, _, Tryd.underlying23, rfl, rfl, rfl, _, IC.size, (by decide)⟩⟩
instance f23_2 : FC Tryd.prog 23 2 2 3 := ⟨⟨_, _, Tryd.underlying23, rfl, rfl, rfl, _, IC.size, (by decide)⟩⟩
instance f59_1 : FC Tryd.prog 59 1 1 35 := ⟨⟨_, _, Tryd.underlying59, rfl, rfl, rfl, _, IC.size, (by decide)⟩⟩
instance f85_3 : FC Tryd.prog 85 3 3 27 := ⟨⟨_, _, Tryd.underlying85, rfl, rfl, rfl, _, IC.size, (by decide)⟩⟩
instance f85_1 : FC Tryd.prog 85 1 1 3 := ⟨⟨_, _, Tryd.underlying85, rfl, rfl, rfl, _, IC.size, (by decide)⟩⟩
instance f85_0 : FC Tryd.prog 85 0 0 35 := ⟨⟨_, _, Tryd.underlying85, rfl, rfl, rfl, _, IC.size, (by decide)⟩⟩
instance f91_0 : FC Tryd.prog 91 0 0 27 := ⟨⟨_, _, Tryd.underlying91, rfl, rfl, rfl, _, IC.size, (by decide)⟩⟩
instance b23 : BC Tryd.prog 23 [(0, 1), (1, 1), (2, 1), (3, 1), (4, 1), (5, 1), (6, 1), (7, 1)] [.int .i64 0, .int .i64 0, .int .i64 0, .int .i64 0, .int .i64 0, .int .i64 0, .int .i64 0, .int .i64 0] := ⟨⟨_, _, Tryd.underlying23, IC.zero, rfl, rfl, fun i f h => by
    match i, h with
    | 0, h => cases h; exact ⟨_, _, rfl, rfl, IC.size⟩
    | 1, h => cases h; exact ⟨_, _, rfl, rfl, IC.size⟩
    | 2, h => cases h; exact ⟨_, _, rfl, rfl, IC.size⟩
    | 3, h => cases h; exact ⟨_, _, rfl, rfl, IC.size⟩
    | 4, h => cases h; exact ⟨_, _, rfl, rfl, IC.size⟩
    | 5, h => cases h; exact ⟨_, _, rfl, rfl, IC.size⟩
    | 6, h => cases h; exact ⟨_, _, rfl, rfl, IC.size⟩
    | 7, h => cases h; exact ⟨_, _, rfl, rfl, IC.size⟩
    | _ + 8, h => cases h⟩⟩
instance b26 : BC Tryd.prog 26 [(0, 1), (1, 1), (2, 1), (3, 1), (4, 1), (5, 1), (6, 1), (7, 1), (8, 1), (9, 1), (10, 1), (11, 1), (12, 8)] [.int .i64 0, .int .i64 0, .int .i64 0, .int .i64 0, .int .i64 0, .int .i64 0, .int .i64 0, .int .i64 0, .int .i64 0, .int .i64 0, .int .i64 0, .int .i64 0, .int .i64 0, .int .i64 0, .int .i64 0, .int .i64 0, .int .i64 0, .int .i64 0, .int .i64 0, .int .i64 0] := ⟨⟨_, _, Tryd.underlying26, IC.zero, rfl, rfl, fun i f h => by
    match i, h with
    | 0, h => cases h; exact ⟨_, _, rfl, rfl, IC.size⟩
    | 1, h => cases h; exact ⟨_, _, rfl, rfl, IC.size⟩
    | 2, h => cases h; exact ⟨_, _, rfl, rfl, IC.size⟩
    | 3, h => cases h; exact ⟨_, _, rfl, rfl, IC.size⟩
    | 4, h => cases h; exact ⟨_, _, rfl, rfl, IC.size⟩
    | 5, h => cases h; exact ⟨_, _, rfl, rfl, IC.size⟩
    | 6, h => cases h; exact ⟨_, _, rfl, rfl, IC.size⟩
    | 7, h => cases h; exact ⟨_, _, rfl, rfl, IC.size⟩
    | 8, h => cases h; exact ⟨_, _, rfl, rfl, IC.size⟩
    | 9, h => cases h; exact ⟨_, _, rfl, rfl, IC.size⟩
    | 10, h => cases h; exact ⟨_, _, rfl, rfl, IC.size⟩
    | 11, h => cases h; exact ⟨_, _, rfl, rfl, IC.size⟩
    | 12, h => cases h; exact ⟨_, _, rfl, rfl, IC.size⟩
    | _ + 13, h => cases h⟩⟩
instance b8 : BC Tryd.prog 8 [(0, 1), (1, 1), (2, 1), (3, 1)] [.int .i64 0, .int .i64 0, .bool false, .int .u8 0] := ⟨⟨_, _, Tryd.underlying8, IC.zero, rfl, rfl, fun i f h => by
    match i, h with
    | 0, h => cases h; exact ⟨_, _, rfl, rfl, IC.size⟩
    | 1, h => cases h; exact ⟨_, _, rfl, rfl, IC.size⟩
    | 2, h => cases h; exact ⟨_, _, rfl, rfl, IC.size⟩
    | 3, h => cases h; exact ⟨_, _, rfl, rfl, IC.size⟩
    | _ + 4, h => cases h⟩⟩
instance b7 : BC Tryd.prog 7 [(0, 1), (1, 1), (2, 1), (3, 1)] [.int .i64 0, .int .i64 0, .bool false, .int .u8 0] := ⟨⟨_, _, Tryd.underlying7, IC.zero, rfl, rfl, fun i f h => by
    match i, h with
    | 0, h => cases h; exact ⟨_, _, rfl, rfl, IC.size⟩
    | 1, h => cases h; exact ⟨_, _, rfl, rfl, IC.size⟩
    | 2, h => cases h; exact ⟨_, _, rfl, rfl, IC.size⟩
    | 3, h => cases h; exact ⟨_, _, rfl, rfl, IC.size⟩
    | _ + 4, h => cases h⟩⟩
instance b85 : BC Tryd.prog 85 [(0, 1), (1, 1), (2, 1), (3, 1)] [.slice none 0 0, .int .i64 0, .int .i64 0, .int .i64 0] := ⟨⟨_, _, Tryd.underlying85, IC.zero, rfl, rfl, fun i f h => by
    match i, h with
    | 0, h => cases h; exact ⟨_, _, rfl, rfl, IC.size⟩
    | 1, h => cases h; exact ⟨_, _, rfl, rfl, IC.size⟩
    | 2, h => cases h; exact ⟨_, _, rfl, rfl, IC.size⟩
    | 3, h => cases h; exact ⟨_, _, rfl, rfl, IC.size⟩
    | _ + 4, h => cases h⟩⟩
instance b59 : BC Tryd.prog 59 [(0, 1), (1, 1)] [.slice none 0 0, .slice none 0 0] := ⟨⟨_, _, Tryd.underlying59, IC.zero, rfl, rfl, fun i f h => by
    match i, h with
    | 0, h => cases h; exact ⟨_, _, rfl, rfl, IC.size⟩
    | 1, h => cases h; exact ⟨_, _, rfl, rfl, IC.size⟩
    | _ + 2, h => cases h⟩⟩
instance b91 : BC Tryd.prog 91 [(0, 1)] [.int .i64 0] := ⟨⟨_, _, Tryd.underlying91, IC.zero, rfl, rfl, fun i f h => by
    match i, h with
    | 0, h => cases h; exact ⟨_, _, rfl, rfl, IC.size⟩
    | _ + 1, h => cases h⟩⟩
instance b58 : BC Tryd.prog 58 [(0, 1), (1, 1)] [.slice none 0 0, .slice none 0 0] := ⟨⟨_, _, Tryd.underlying58, IC.zero, rfl, rfl, fun i f h => by
    match i, h with
    | 0, h => cases h; exact ⟨_, _, rfl, rfl, IC.size⟩
    | 1, h => cases h; exact ⟨_, _, rfl, rfl, IC.size⟩
    | _ + 2, h => cases h⟩⟩
instance b25 : BC Tryd.prog 25 [(0, 1), (1, 1), (2, 1), (3, 1), (4, 1), (5, 1), (6, 1), (7, 1), (8, 1), (9, 1), (10, 1), (11, 1), (12, 8)] [.int .i64 0, .int .i64 0, .int .i64 0, .int .i64 0, .int .i64 0, .int .i64 0, .int .i64 0, .int .i64 0, .int .i64 0, .int .i64 0, .int .i64 0, .int .i64 0, .int .i64 0, .int .i64 0, .int .i64 0, .int .i64 0, .int .i64 0, .int .i64 0, .int .i64 0, .int .i64 0] := ⟨⟨_, _, Tryd.underlying25, IC.zero, rfl, rfl, fun i f h => by
    match i, h with
    | 0, h => cases h; exact ⟨_, _, rfl, rfl, IC.size⟩
    | 1, h => cases h; exact ⟨_, _, rfl, rfl, IC.size⟩
    | 2, h => cases h; exact ⟨_, _, rfl, rfl, IC.size⟩
    | 3, h => cases h; exact ⟨_, _, rfl, rfl, IC.size⟩
    | 4, h => cases h; exact ⟨_, _, rfl, rfl, IC.size⟩
    | 5, h => cases h; exact ⟨_, _, rfl, rfl, IC.size⟩
    | 6, h => cases h; exact ⟨_, _, rfl, rfl, IC.size⟩
    | 7, h => cases h; exact ⟨_, _, rfl, rfl, IC.size⟩
    | 8, h => cases h; exact ⟨_, _, rfl, rfl, IC.size⟩
    | 9, h => cases h; exact ⟨_, _, rfl, rfl, IC.size⟩
    | 10, h => cases h; exact ⟨_, _, rfl, rfl, IC.size⟩
    | 11, h => cases h; exact ⟨_, _, rfl, rfl, IC.size⟩
    | 12, h => cases h; exact ⟨_, _, rfl, rfl, IC.size⟩
    | _ + 13, h => cases h⟩⟩
instance e3 : EC Tryd.prog 3 := ⟨Enters.mk Tryd.func3 (by kernel_rfl) (by kernel_rfl)⟩
instance e4 : EC Tryd.prog 4 := ⟨Enters.mk Tryd.func4 (by kernel_rfl) (by kernel_rfl)⟩
instance e5 : EC Tryd.prog 5 := ⟨Enters.mk Tryd.func5 (by kernel_rfl) (by kernel_rfl)⟩
instance e6 : EC Tryd.prog 6 := ⟨Enters.mk Tryd.func6 (by kernel_rfl) (by kernel_rfl)⟩
instance e7 : EC Tryd.prog 7 := ⟨Enters.mk Tryd.func7 (by kernel_rfl) (by kernel_rfl)⟩
instance e8 : EC Tryd.prog 8 := ⟨Enters.mk Tryd.func8 (by kernel_rfl) (by kernel_rfl)⟩
instance e9 : EC Tryd.prog 9 := ⟨Enters.mk Tryd.func9 (by kernel_rfl) (by kernel_rfl)⟩
instance e10 : EC Tryd.prog 10 := ⟨Enters.mk Tryd.func10 (by kernel_rfl) (by kernel_rfl)⟩
instance e11 : EC Tryd.prog 11 := ⟨Enters.mk Tryd.func11 (by kernel_rfl) (by kernel_rfl)⟩
instance e12 : EC Tryd.prog 12 := ⟨Enters.mk Tryd.func12 (by kernel_rfl) (by kernel_rfl)⟩
instance e13 : EC Tryd.prog 13 := ⟨Enters.mk Tryd.func13 (by kernel_rfl) (by kernel_rfl)⟩
instance e14 : EC Tryd.prog 14 := ⟨Enters.mk Tryd.func14 (by kernel_rfl) (by kernel_rfl)⟩
instance e15 : EC Tryd.prog 15 := ⟨Enters.mk Tryd.func15 (by kernel_rfl) (by kernel_rfl)⟩
instance e16 : EC Tryd.prog 16 := ⟨Enters.mk Tryd.func16 (by kernel_rfl) (by kernel_rfl)⟩
instance e17 : EC Tryd.prog 17 := ⟨Enters.mk Tryd.func17 (by kernel_rfl) (by kernel_rfl)⟩
instance e18 : EC Tryd.prog 18 := ⟨Enters.mk Tryd.func18 (by kernel_rfl) (by kernel_rfl)⟩
instance e19 : EC Tryd.prog 19 := ⟨Enters.mk Tryd.func19 (by kernel_rfl) (by kernel_rfl)⟩
instance e20 : EC Tryd.prog 20 := ⟨Enters.mk Tryd.func20 (by kernel_rfl) (by kernel_rfl)⟩
instance e21 : EC Tryd.prog 21 := ⟨Enters.mk Tryd.func21 (by kernel_rfl) (by kernel_rfl)⟩
instance e22 : EC Tryd.prog 22 := ⟨Enters.mk Tryd.func22 (by kernel_rfl) (by kernel_rfl)⟩
instance e23 : EC Tryd.prog 23 := ⟨Enters.mk Tryd.func23 (by kernel_rfl) (by kernel_rfl)⟩
instance e24 : EC Tryd.prog 24 := ⟨Enters.mk Tryd.func24 (by kernel_rfl) (by kernel_rfl)⟩
instance e25 : EC Tryd.prog 25 := ⟨Enters.mk Tryd.func25 (by kernel_rfl) (by kernel_rfl)⟩
instance e26 : EC Tryd.prog 26 := ⟨Enters.mk Tryd.func26 (by kernel_rfl) (by kernel_rfl)⟩
instance e27 : EC Tryd.prog 27 := ⟨Enters.mk Tryd.func27 (by kernel_rfl) (by kernel_rfl)⟩
instance e28 : EC Tryd.prog 28 := ⟨Enters.mk Tryd.func28 (by kernel_rfl) (by kernel_rfl)⟩
instance e29 : EC Tryd.prog 29 := ⟨Enters.mk Tryd.func29 (by kernel_rfl) (by kernel_rfl)⟩
instance e30 : EC Tryd.prog 30 := ⟨Enters.mk Tryd.func30 (by kernel_rfl) (by kernel_rfl)⟩
instance e31 : EC Tryd.prog 31 := ⟨Enters.mk Tryd.func31 (by kernel_rfl) (by kernel_rfl)⟩
instance e32 : EC Tryd.prog 32 := ⟨Enters.mk Tryd.func32 (by kernel_rfl) (by kernel_rfl)⟩
instance e33 : EC Tryd.prog 33 := ⟨Enters.mk Tryd.func33 (by kernel_rfl) (by kernel_rfl)⟩
instance e34 : EC Tryd.prog 34 := ⟨Enters.mk Tryd.func34 (by kernel_rfl) (by kernel_rfl)⟩
instance e35 : EC Tryd.prog 35 := ⟨Enters.mk Tryd.func35 (by kernel_rfl) (by kernel_rfl)⟩
instance e36 : EC Tryd.prog 36 := ⟨Enters.mk Tryd.func36 (by kernel_rfl) (by kernel_rfl)⟩
instance e37 : EC Tryd.prog 37 := ⟨Enters.mk Tryd.func37 (by kernel_rfl) (by kernel_rfl)⟩
instance e38 : EC Tryd.prog 38 := ⟨Enters.mk Tryd.func38 (by kernel_rfl) (by kernel_rfl)⟩
instance e39 : EC Tryd.prog 39 := ⟨Enters.mk Tryd.func39 (by kernel_rfl) (by kernel_rfl)⟩
instance e40 : EC Tryd.prog 40 := ⟨Enters.mk Tryd.func40 (by kernel_rfl) (by kernel_rfl)⟩
instance e41 : EC Tryd.prog 41 := ⟨Enters.mk Tryd.func41 (by kernel_rfl) (by kernel_rfl)⟩
instance e42 : EC Tryd.prog 42 := ⟨Enters.mk Tryd.func42 (by kernel_rfl) (by kernel_rfl)⟩
instance e43 : EC Tryd.prog 43 := ⟨Enters.mk Tryd.func43 (by kernel_rfl) (by kernel_rfl)⟩
instance e44 : EC Tryd.prog 44 := ⟨Enters.mk Tryd.func44 (by kernel_rfl) (by kernel_rfl)⟩
instance e45 : EC Tryd.prog 45 := ⟨Enters.mk Tryd.func45 (by kernel_rfl) (by kernel_rfl)⟩
instance e46 : EC Tryd.prog 46 := ⟨Enters.mk Tryd.func46 (by kernel_rfl) (by kernel_rfl)⟩
instance e47 : EC Tryd.prog 47 := ⟨Enters.mk Tryd.func47 (by kernel_rfl) (by kernel_rfl)⟩
instance e48 : EC Tryd.prog 48 := ⟨Enters.mk Tryd.func48 (by kernel_rfl) (by kernel_rfl)⟩
instance e49 : EC Tryd.prog 49 := ⟨Enters.mk Tryd.func49 (by kernel_rfl) (by kernel_rfl)⟩
instance e50 : EC Tryd.prog 50 := ⟨Enters.mk Tryd.func50 (by kernel_rfl) (by kernel_rfl)⟩
instance e51 : EC Tryd.prog 51 := ⟨Enters.mk Tryd.func51 (by kernel_rfl) (by kernel_rfl)⟩
instance e52 : EC Tryd.prog 52 := ⟨Enters.mk Tryd.func52 (by kernel_rfl) (by kernel_rfl)⟩
instance e53 : EC Tryd.prog 53 := ⟨Enters.mk Tryd.func53 (by kernel_rfl) (by kernel_rfl)⟩
instance e54 : EC Tryd.prog 54 := ⟨Enters.mk Tryd.func54 (by kernel_rfl) (by kernel_rfl)⟩
instance e55 : EC Tryd.prog 55 := ⟨Enters.mk Tryd.func55 (by kernel_rfl) (by kernel_rfl)⟩
instance e56 : EC Tryd.prog 56 := ⟨Enters.mk Tryd.func56 (by kernel_rfl) (by kernel_rfl)⟩
instance e57 : EC Tryd.prog 57 := ⟨Enters.mk Tryd.func57 (by kernel_rfl) (by kernel_rfl)⟩
instance e58 : EC Tryd.prog 58 := ⟨Enters.mk Tryd.func58 (by kernel_rfl) (by kernel_rfl)⟩
instance e59 : EC Tryd.prog 59 := ⟨Enters.mk Tryd.func59 (by kernel_rfl) (by kernel_rfl)⟩
end Go.Proofs.YtmdkboojafbpcaaDoor
