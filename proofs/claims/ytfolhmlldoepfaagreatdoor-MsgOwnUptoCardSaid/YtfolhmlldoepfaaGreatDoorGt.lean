import Derived.Test.YtfolhmlldoepfaaGreatDoorGa
import Derived.Test.YtfolhmlldoepfaaGreatDoorProg
namespace Go.Proofs.YtfolhmlldoepfaaGreatDoor
open Go Go.Proofs
set_option maxRecDepth 20000
theorem i_of {P : Program} {t s b : Nat} {z : Value} (h1 : (P.info? t).map (fun i => (i.size, i.bytes, i.zero)) = some (s, b, some z)) : ∃ i, P.info? t = some i ∧ i.size = s ∧ i.bytes = b ∧ i.zero = some z := by
  simp only [Option.map_eq_some_iff, Prod.mk.injEq] at h1
  obtain ⟨j, h3, h4, h5, h6⟩ := h1
  exact ⟨j, h3, h4, h5, h6⟩
instance u3 : UC Tryz.prog 3 (Go.TypeDesc.int Go.IntKind.i64) := ⟨Tryz.underlying3⟩
instance i3 : IC Tryz.prog 3 1 8 (.int .i64 0) := ⟨i_of (by kernel_rfl)⟩
instance u22 : UC Tryz.prog 22 (Go.TypeDesc.slice 5) := ⟨Tryz.underlying22⟩
instance i22 : IC Tryz.prog 22 1 24 (.slice none 0 0) := ⟨i_of (by kernel_rfl)⟩
instance u30 : UC Tryz.prog 30 (Go.TypeDesc.struct #[{ name := "Client", type := 3, offset := 0, embedded := Bool.false, tag := "", pkgPath := "", byteOffset := 0 }, { name := "Seq", type := 3, offset := 1, embedded := Bool.false, tag := "", pkgPath := "", byteOffset := 8 }, { name := "Epoch", type := 3, offset := 2, embedded := Bool.false, tag := "", pkgPath := "", byteOffset := 16 }, { name := "Op", type := 3, offset := 3, embedded := Bool.false, tag := "", pkgPath := "", byteOffset := 24 }, { name := "Status", type := 25, offset := 4, embedded := Bool.false, tag := "", pkgPath := "", byteOffset := 32 }, { name := "Attr", type := 27, offset := 5, embedded := Bool.false, tag := "", pkgPath := "", byteOffset := 40 }, { name := "Data", type := 22, offset := 9, embedded := Bool.false, tag := "", pkgPath := "", byteOffset := 72 }, { name := "List", type := 28, offset := 10, embedded := Bool.false, tag := "", pkgPath := "", byteOffset := 96 }, { name := "More", type := 4, offset := 11, embedded := Bool.false, tag := "", pkgPath := "", byteOffset := 120 }]) := ⟨Tryz.underlying30⟩
instance i30 : IC Tryz.prog 30 12 128 (.agg #[.int .i64 0, .int .i64 0, .int .i64 0, .int .i64 0, .int .i64 0, .int .i64 0, .int .i64 0, .int .i64 0, .int .i64 0, .slice none 0 0, .slice none 0 0, .bool false]) := ⟨i_of (by kernel_rfl)⟩
instance u24 : UC Tryz.prog 24 (Go.TypeDesc.struct #[{ name := "Client", type := 3, offset := 0, embedded := Bool.false, tag := "", pkgPath := "", byteOffset := 0 }, { name := "Seq", type := 3, offset := 1, embedded := Bool.false, tag := "", pkgPath := "", byteOffset := 8 }, { name := "Ack", type := 3, offset := 2, embedded := Bool.false, tag := "", pkgPath := "", byteOffset := 16 }, { name := "Epoch", type := 3, offset := 3, embedded := Bool.false, tag := "", pkgPath := "", byteOffset := 24 }, { name := "Op", type := 3, offset := 4, embedded := Bool.false, tag := "", pkgPath := "", byteOffset := 32 }, { name := "Id", type := 3, offset := 5, embedded := Bool.false, tag := "", pkgPath := "", byteOffset := 40 }, { name := "Id2", type := 3, offset := 6, embedded := Bool.false, tag := "", pkgPath := "", byteOffset := 48 }, { name := "Off", type := 3, offset := 7, embedded := Bool.false, tag := "", pkgPath := "", byteOffset := 56 }, { name := "Len", type := 3, offset := 8, embedded := Bool.false, tag := "", pkgPath := "", byteOffset := 64 }, { name := "Path", type := 9, offset := 9, embedded := Bool.false, tag := "", pkgPath := "", byteOffset := 72 }, { name := "Name", type := 9, offset := 10, embedded := Bool.false, tag := "", pkgPath := "", byteOffset := 88 }, { name := "Name2", type := 9, offset := 11, embedded := Bool.false, tag := "", pkgPath := "", byteOffset := 104 }, { name := "Data", type := 22, offset := 12, embedded := Bool.false, tag := "", pkgPath := "", byteOffset := 120 }]) := ⟨Tryz.underlying24⟩
instance i24 : IC Tryz.prog 24 13 144 (.agg #[.int .i64 0, .int .i64 0, .int .i64 0, .int .i64 0, .int .i64 0, .int .i64 0, .int .i64 0, .int .i64 0, .int .i64 0, .string ByteArray.empty, .string ByteArray.empty, .string ByteArray.empty, .slice none 0 0]) := ⟨i_of (by kernel_rfl)⟩
instance u9 : UC Tryz.prog 9 (Go.TypeDesc.string) := ⟨Tryz.underlying9⟩
instance i9 : IC Tryz.prog 9 1 16 (.string ByteArray.empty) := ⟨i_of (by kernel_rfl)⟩
instance u25 : UC Tryz.prog 25 (Go.TypeDesc.int Go.IntKind.i64) := ⟨Tryz.underlying25⟩
instance i25 : IC Tryz.prog 25 1 8 (.int .i64 0) := ⟨i_of (by kernel_rfl)⟩
instance u5 : UC Tryz.prog 5 (Go.TypeDesc.int Go.IntKind.u8) := ⟨Tryz.underlying5⟩
instance i5 : IC Tryz.prog 5 1 1 (.int .u8 0) := ⟨i_of (by kernel_rfl)⟩
instance u4 : UC Tryz.prog 4 (Go.TypeDesc.bool) := ⟨Tryz.underlying4⟩
instance i4 : IC Tryz.prog 4 1 1 (.bool false) := ⟨i_of (by kernel_rfl)⟩
instance u28 : UC Tryz.prog 28 (Go.TypeDesc.slice 94) := ⟨Tryz.underlying28⟩
instance i28 : IC Tryz.prog 28 1 24 (.slice none 0 0) := ⟨i_of (by kernel_rfl)⟩
instance u95 : UC Tryz.prog 95 (Go.TypeDesc.int Go.IntKind.u64) := ⟨Tryz.underlying95⟩
instance u27 : UC Tryz.prog 27 (Go.TypeDesc.struct #[{ name := "Id", type := 3, offset := 0, embedded := Bool.false, tag := "", pkgPath := "", byteOffset := 0 }, { name := "Kind", type := 3, offset := 1, embedded := Bool.false, tag := "", pkgPath := "", byteOffset := 8 }, { name := "Size", type := 3, offset := 2, embedded := Bool.false, tag := "", pkgPath := "", byteOffset := 16 }, { name := "Change", type := 3, offset := 3, embedded := Bool.false, tag := "", pkgPath := "", byteOffset := 24 }]) := ⟨Tryz.underlying27⟩
instance i27 : IC Tryz.prog 27 4 32 (.agg #[.int .i64 0, .int .i64 0, .int .i64 0, .int .i64 0]) := ⟨i_of (by kernel_rfl)⟩
instance u94 : UC Tryz.prog 94 (Go.TypeDesc.struct #[{ name := "Name", type := 9, offset := 0, embedded := Bool.false, tag := "", pkgPath := "", byteOffset := 0 }, { name := "Id", type := 3, offset := 1, embedded := Bool.false, tag := "", pkgPath := "", byteOffset := 16 }, { name := "Kind", type := 3, offset := 2, embedded := Bool.false, tag := "", pkgPath := "", byteOffset := 24 }]) := ⟨Tryz.underlying94⟩
instance i94 : IC Tryz.prog 94 3 32 (.agg #[.string ByteArray.empty, .int .i64 0, .int .i64 0]) := ⟨i_of (by kernel_rfl)⟩
instance u183 : UC Tryz.prog 183 (Go.TypeDesc.interface #[("Error", 225)]) := ⟨Tryz.underlying183⟩
instance u81 : UC Tryz.prog 81 (Go.TypeDesc.slice 110) := ⟨Tryz.underlying81⟩
instance u110 : UC Tryz.prog 110 (Go.TypeDesc.interface #[("annex/msg.clear", 1), ("annex/msg.put", 37), ("annex/msg.take", 111)]) := ⟨Tryz.underlying110⟩
instance i110 : IC Tryz.prog 110 1 16 (.nilIface) := ⟨i_of (by kernel_rfl)⟩
instance u141 : UC Tryz.prog 141 (Go.TypeDesc.slice 9) := ⟨Tryz.underlying141⟩
instance u63 : UC Tryz.prog 63 (Go.TypeDesc.slice 22) := ⟨Tryz.underlying63⟩
instance i63 : IC Tryz.prog 63 1 24 (.slice none 0 0) := ⟨i_of (by kernel_rfl)⟩
instance u65 : UC Tryz.prog 65 (Go.TypeDesc.slice 28) := ⟨Tryz.underlying65⟩
instance i65 : IC Tryz.prog 65 1 24 (.slice none 0 0) := ⟨i_of (by kernel_rfl)⟩
instance i165 : IC Tryz.prog 165 4 48 (.agg #[.slice none 0 0, .int .i64 0, .int .i64 0, .int .i64 0]) := ⟨i_of (by kernel_rfl)⟩
instance u20 : UC Tryz.prog 20 (Go.TypeDesc.interface #[]) := ⟨Tryz.underlying20⟩
instance u200 : UC Tryz.prog 200 (Go.TypeDesc.struct #[{ name := "typ_", type := 17, offset := 0, embedded := Bool.false, tag := "", pkgPath := "internal/reflectlite", byteOffset := 0 }, { name := "ptr", type := 197, offset := 1, embedded := Bool.false, tag := "", pkgPath := "internal/reflectlite", byteOffset := 8 }, { name := "flag", type := 198, offset := 2, embedded := Bool.true, tag := "", pkgPath := "internal/reflectlite", byteOffset := 16 }]) := ⟨Tryz.underlying200⟩
instance i200 : IC Tryz.prog 200 3 24 (.agg #[.pointer none, .pointer none, .int .u64 0]) := ⟨i_of (by kernel_rfl)⟩
instance u147 : UC Tryz.prog 147 (Go.TypeDesc.struct #[{ name := "a", type := 145, offset := 0, embedded := Bool.false, tag := "", pkgPath := "annex/msg", byteOffset := 0 }, { name := "op", type := 3, offset := 1, embedded := Bool.false, tag := "", pkgPath := "annex/msg", byteOffset := 8 }]) := ⟨Tryz.underlying147⟩
instance i147 : IC Tryz.prog 147 2 16 (.agg #[.pointer none, .int .i64 0]) := ⟨i_of (by kernel_rfl)⟩
instance i67 : IC Tryz.prog 67 3 72 (.agg #[.slice none 0 0, .slice none 0 0, .slice none 0 0]) := ⟨i_of (by kernel_rfl)⟩
instance u133 : UC Tryz.prog 133 (Go.TypeDesc.struct #[{ name := "s", type := 131, offset := 0, embedded := Bool.false, tag := "", pkgPath := "annex/msg", byteOffset := 0 }, { name := "most", type := 3, offset := 1, embedded := Bool.false, tag := "", pkgPath := "annex/msg", byteOffset := 8 }, { name := "judge", type := 125, offset := 2, embedded := Bool.false, tag := "", pkgPath := "annex/msg", byteOffset := 16 }]) := ⟨Tryz.underlying133⟩
instance i133 : IC Tryz.prog 133 3 24 (.agg #[.pointer none, .int .i64 0, .nilFunc]) := ⟨i_of (by kernel_rfl)⟩
instance u64 : UC Tryz.prog 64 (Go.TypeDesc.slice 3) := ⟨Tryz.underlying64⟩
instance i64 : IC Tryz.prog 64 1 24 (.slice none 0 0) := ⟨i_of (by kernel_rfl)⟩
instance u130 : UC Tryz.prog 130 (Go.TypeDesc.struct #[{ name := "x", type := 126, offset := 0, embedded := Bool.false, tag := "", pkgPath := "annex/msg", byteOffset := 0 }, { name := "least", type := 3, offset := 1, embedded := Bool.false, tag := "", pkgPath := "annex/msg", byteOffset := 8 }, { name := "most", type := 3, offset := 2, embedded := Bool.false, tag := "", pkgPath := "annex/msg", byteOffset := 16 }]) := ⟨Tryz.underlying130⟩
instance i130 : IC Tryz.prog 130 3 24 (.agg #[.pointer none, .int .i64 0, .int .i64 0]) := ⟨i_of (by kernel_rfl)⟩
instance u136 : UC Tryz.prog 136 (Go.TypeDesc.struct #[{ name := "d", type := 134, offset := 0, embedded := Bool.false, tag := "", pkgPath := "annex/msg", byteOffset := 0 }, { name := "least", type := 3, offset := 1, embedded := Bool.false, tag := "", pkgPath := "annex/msg", byteOffset := 8 }]) := ⟨Tryz.underlying136⟩
instance i136 : IC Tryz.prog 136 2 16 (.agg #[.pointer none, .int .i64 0]) := ⟨i_of (by kernel_rfl)⟩
instance u150 : UC Tryz.prog 150 (Go.TypeDesc.struct #[{ name := "l", type := 148, offset := 0, embedded := Bool.false, tag := "", pkgPath := "annex/msg", byteOffset := 0 }, { name := "over", type := 87, offset := 1, embedded := Bool.false, tag := "", pkgPath := "annex/msg", byteOffset := 8 }]) := ⟨Tryz.underlying150⟩
instance i150 : IC Tryz.prog 150 2 16 (.agg #[.pointer none, .pointer none]) := ⟨i_of (by kernel_rfl)⟩
instance u152 : UC Tryz.prog 152 (Go.TypeDesc.struct #[{ name := "m", type := 87, offset := 0, embedded := Bool.false, tag := "", pkgPath := "annex/msg", byteOffset := 0 }, { name := "l", type := 148, offset := 1, embedded := Bool.false, tag := "", pkgPath := "annex/msg", byteOffset := 8 }]) := ⟨Tryz.underlying152⟩
instance i152 : IC Tryz.prog 152 2 16 (.agg #[.pointer none, .pointer none]) := ⟨i_of (by kernel_rfl)⟩
instance u128 : UC Tryz.prog 128 (Go.TypeDesc.struct #[{ name := "x", type := 126, offset := 0, embedded := Bool.false, tag := "", pkgPath := "annex/msg", byteOffset := 0 }]) := ⟨Tryz.underlying128⟩
instance i128 : IC Tryz.prog 128 1 8 (.agg #[.pointer none]) := ⟨i_of (by kernel_rfl)⟩
instance u61 : UC Tryz.prog 61 (Go.TypeDesc.slice 30) := ⟨Tryz.underlying61⟩
instance u87 : UC Tryz.prog 87 (Go.TypeDesc.pointer 4) := ⟨Tryz.underlying87⟩
instance i87 : IC Tryz.prog 87 1 8 (.pointer none) := ⟨i_of (by kernel_rfl)⟩
instance u126 : UC Tryz.prog 126 (Go.TypeDesc.pointer 3) := ⟨Tryz.underlying126⟩
instance i126 : IC Tryz.prog 126 1 8 (.pointer none) := ⟨i_of (by kernel_rfl)⟩
instance u145 : UC Tryz.prog 145 (Go.TypeDesc.pointer 27) := ⟨Tryz.underlying145⟩
instance i145 : IC Tryz.prog 145 1 8 (.pointer none) := ⟨i_of (by kernel_rfl)⟩
instance u60 : UC Tryz.prog 60 (Go.TypeDesc.slice 24) := ⟨Tryz.underlying60⟩
instance u194 : UC Tryz.prog 194 (Go.TypeDesc.interface #[("AssignableTo", 205), ("Comparable", 31), ("Elem", 202), ("Implements", 205), ("Kind", 204), ("Name", 225), ("PkgPath", 225), ("Size", 240), ("String", 225), ("internal/reflectlite.common", 231), ("internal/reflectlite.uncommon", 241)]) := ⟨Tryz.underlying194⟩
instance u148 : UC Tryz.prog 148 (Go.TypeDesc.pointer 28) := ⟨Tryz.underlying148⟩
instance i148 : IC Tryz.prog 148 1 8 (.pointer none) := ⟨i_of (by kernel_rfl)⟩
instance u134 : UC Tryz.prog 134 (Go.TypeDesc.pointer 22) := ⟨Tryz.underlying134⟩
instance i134 : IC Tryz.prog 134 1 8 (.pointer none) := ⟨i_of (by kernel_rfl)⟩
instance u185 : UC Tryz.prog 185 (Go.TypeDesc.struct #[{ name := "code", type := 25, offset := 0, embedded := Bool.false, tag := "", pkgPath := "annex/bits", byteOffset := 0 }]) := ⟨Tryz.underlying185⟩
instance i185 : IC Tryz.prog 185 1 8 (.agg #[.int .i64 0]) := ⟨i_of (by kernel_rfl)⟩
instance u137 : UC Tryz.prog 137 (Go.TypeDesc.array 8 110) := ⟨Tryz.underlying137⟩
instance i137 : IC Tryz.prog 137 8 128 (.agg #[.nilIface, .nilIface, .nilIface, .nilIface, .nilIface, .nilIface, .nilIface, .nilIface]) := ⟨i_of (by kernel_rfl)⟩
instance u153 : UC Tryz.prog 153 (Go.TypeDesc.array 12 110) := ⟨Tryz.underlying153⟩
instance i153 : IC Tryz.prog 153 12 192 (.agg #[.nilIface, .nilIface, .nilIface, .nilIface, .nilIface, .nilIface, .nilIface, .nilIface, .nilIface, .nilIface, .nilIface, .nilIface]) := ⟨i_of (by kernel_rfl)⟩
instance u131 : UC Tryz.prog 131 (Go.TypeDesc.pointer 9) := ⟨Tryz.underlying131⟩
instance i131 : IC Tryz.prog 131 1 8 (.pointer none) := ⟨i_of (by kernel_rfl)⟩
instance u125 : UC Tryz.prog 125 (Go.TypeDesc.func #[9] #[4] Bool.false) := ⟨Tryz.underlying125⟩
instance i125 : IC Tryz.prog 125 1 8 (.nilFunc) := ⟨i_of (by kernel_rfl)⟩
instance u139 : UC Tryz.prog 139 (Go.TypeDesc.array 11 138) := ⟨Tryz.underlying139⟩
instance i138 : IC Tryz.prog 138 2 48 (.agg #[.slice none 0 0, .slice none 0 0]) := ⟨i_of (by kernel_rfl)⟩
instance u188 : UC Tryz.prog 188 (Go.TypeDesc.pointer 185) := ⟨Tryz.underlying188⟩
instance f30_7 : FC Tryz.prog 30 7 10 28 := ⟨⟨_, _, Tryz.underlying30, rfl, rfl, rfl, _, IC.size, (by decide)⟩⟩
instance f24_12 : FC Tryz.prog 24 12 12 22 := ⟨⟨_, _, Tryz.underlying24, rfl, rfl, rfl, _, IC.size, (by decide)⟩⟩
instance f30_6 : FC Tryz.prog 30 6 9 22 := ⟨⟨_, _, Tryz.underlying30, rfl, rfl, rfl, _, IC.size, (by decide)⟩⟩
instance f24_4 : FC Tryz.prog 24 4 4 3 := ⟨⟨_, _, Tryz.underlying24, rfl, rfl, rfl, _, IC.size, (by decide)⟩⟩
instance f30_5 : FC Tryz.prog 30 5 5 27 := ⟨⟨_, _, Tryz.underlying30, rfl, rfl, rfl, _, IC.size, (by decide)⟩⟩
instance f27_1 : FC Tryz.prog 27 1 1 3 := ⟨⟨_, _, Tryz.underlying27, rfl, rfl, rfl, _, IC.size, (by decide)⟩⟩
instance f27_2 : FC Tryz.prog 27 2 2 3 := ⟨⟨_, _, Tryz.underlying27, rfl, rfl, rfl, _, IC.size, (by decide)⟩⟩
instance f30_3 : FC Tryz.prog 30 3 3 3 := ⟨⟨_, _, Tryz.underlying30, rfl, rfl, rfl, _, IC.size, (by decide)⟩⟩
instance f24_1 : FC Tryz.prog 24 1 1 3 := ⟨⟨_, _, Tryz.underlying24, rfl, rfl, rfl, _, IC.size, (by decide)⟩⟩
instance f94_2 : FC Tryz.prog 94 2 2 3 := ⟨⟨_, _, Tryz.underlying94, rfl, rfl, rfl, _, IC.size, (by decide)⟩⟩
instance f94_0 : FC Tryz.prog 94 0 0 9 := ⟨⟨_, _, Tryz.underlying94, rfl, rfl, rfl, _, IC.size, (by decide)⟩⟩
instance f30_4 : FC Tryz.prog 30 4 4 25 := ⟨⟨_, _, Tryz.underlying30, rfl, rfl, rfl, _, IC.size, (by decide)⟩⟩
instance f147_0 : FC Tryz.prog 147 0 0 145 := ⟨⟨_, _, Tryz.underlying147, rfl, rfl, rfl, _, IC.size, (by decide)⟩⟩
instance f24_10 : FC Tryz.prog 24 10 10 9 := ⟨⟨_, _, Tryz.underlying24, rfl, rfl, rfl, _, IC.size, (by decide)⟩⟩
instance f24_2 : FC Tryz.prog 24 2 2 3 := ⟨⟨_, _, Tryz.underlying24, rfl, rfl, rfl, _, IC.size, (by decide)⟩⟩
instance f24_3 : FC Tryz.prog 24 3 3 3 := ⟨⟨_, _, Tryz.underlying24, rfl, rfl, rfl, _, IC.size, (by decide)⟩⟩
instance f30_1 : FC Tryz.prog 30 1 1 3 := ⟨⟨_, _, Tryz.underlying30, rfl, rfl, rfl, _, IC.size, (by decide)⟩⟩
instance f30_2 : FC Tryz.prog 30 2 2 3 := ⟨⟨_, _, Tryz.underlying30, rfl, rfl, rfl, _, IC.size, (by decide)⟩⟩
instance f27_3 : FC Tryz.prog 27 3 3 3 := ⟨⟨_, _, Tryz.underlying27, rfl, rfl, rfl, _, IC.size, (by decide)⟩⟩
instance f24_5 : FC Tryz.prog 24 5 5 3 := ⟨⟨_, _, Tryz.underlying24, rfl, rfl, rfl, _, IC.size, (by decide)⟩⟩
instance f24_6 : FC Tryz.prog 24 6 6 3 := ⟨⟨_, _, Tryz.underlying24, rfl, rfl, rfl, _, IC.size, (by decide)⟩⟩
instance f24_7 : FC Tryz.prog 24 7 7 3 := ⟨⟨_, _, Tryz.underlying24, rfl, rfl, rfl, _, IC.size, (by decide)⟩⟩
instance f24_8 : FC Tryz.prog 24 8 8 3 := ⟨⟨_, _, Tryz.underlying24, rfl, rfl, rfl, _, IC.size, (by decide)⟩⟩
instance f24_9 : FC Tryz.prog 24 9 9 9 := ⟨⟨_, _, Tryz.underlying24, rfl, rfl, rfl, _, IC.size, (by decide)⟩⟩
instance f24_11 : FC Tryz.prog 24 11 11 9 := ⟨⟨_, _, Tryz.underlying24, rfl, rfl, rfl, _, IC.size, (by decide)⟩⟩
instance f30_8 : FC Tryz.prog 30 8 11 4 := ⟨⟨_, _, Tryz.underlying30, rfl, rfl, rfl, _, IC.size, (by decide)⟩⟩
instance f24_0 : FC Tryz.prog 24 0 0 3 := ⟨⟨_, _, Tryz.underlying24, rfl, rfl, rfl, _, IC.size, (by decide)⟩⟩
instance f30_0 : FC Tryz.prog 30 0 0 3 := ⟨⟨_, _, Tryz.underlying30, rfl, rfl, rfl, _, IC.size, (by decide)⟩⟩
instance f27_0 : FC Tryz.prog 27 0 0 3 := ⟨⟨_, _, Tryz.underlying27, rfl, rfl, rfl, _, IC.size, (by decide)⟩⟩
instance f94_1 : FC Tryz.prog 94 1 1 3 := ⟨⟨_, _, Tryz.underlying94, rfl, rfl, rfl, _, IC.size, (by decide)⟩⟩
instance f67_0 : FC Tryz.prog 67 0 0 63 := ⟨⟨_, _, Tryz.underlying67, rfl, rfl, rfl, _, IC.size, (by decide)⟩⟩
instance f165_3 : FC Tryz.prog 165 3 3 25 := ⟨⟨_, _, Tryz.underlying165, rfl, rfl, rfl, _, IC.size, (by decide)⟩⟩
instance f165_2 : FC Tryz.prog 165 2 2 3 := ⟨⟨_, _, Tryz.underlying165, rfl, rfl, rfl, _, IC.size, (by decide)⟩⟩
instance f67_2 : FC Tryz.prog 67 2 2 65 := ⟨⟨_, _, Tryz.underlying67, rfl, rfl, rfl, _, IC.size, (by decide)⟩⟩
instance f150_0 : FC Tryz.prog 150 0 0 148 := ⟨⟨_, _, Tryz.underlying150, rfl, rfl, rfl, _, IC.size, (by decide)⟩⟩
instance f130_0 : FC Tryz.prog 130 0 0 126 := ⟨⟨_, _, Tryz.underlying130, rfl, rfl, rfl, _, IC.size, (by decide)⟩⟩
instance f136_0 : FC Tryz.prog 136 0 0 134 := ⟨⟨_, _, Tryz.underlying136, rfl, rfl, rfl, _, IC.size, (by decide)⟩⟩
instance f165_1 : FC Tryz.prog 165 1 1 3 := ⟨⟨_, _, Tryz.underlying165, rfl, rfl, rfl, _, IC.size, (by decide)⟩⟩
instance f128_0 : FC Tryz.prog 128 0 0 126 := ⟨⟨_, _, Tryz.underlying128, rfl, rfl, rfl, _, IC.size, (by decide)⟩⟩
instance f133_0 : FC Tryz.prog 133 0 0 131 := ⟨⟨_, _, Tryz.underlying133, rfl, rfl, rfl, _, IC.size, (by decide)⟩⟩
instance f152_0 : FC Tryz.prog 152 0 0 87 := ⟨⟨_, _, Tryz.underlying152, rfl, rfl, rfl, _, IC.size, (by decide)⟩⟩
instance f67_1 : FC Tryz.prog 67 1 1 64 := ⟨⟨_, _, Tryz.underlying67, rfl, rfl, rfl, _, IC.size, (by decide)⟩⟩
instance f165_0 : FC Tryz.prog 165 0 0 22 := ⟨⟨_, _, Tryz.underlying165, rfl, rfl, rfl, _, IC.size, (by decide)⟩⟩
instance f138_0 : FC Tryz.prog 138 0 0 64 := ⟨⟨_, _, Tryz.underlying138, rfl, rfl, rfl, _, IC.size, (by decide)⟩⟩
instance f138_1 : FC Tryz.prog 138 1 1 64 := ⟨⟨_, _, Tryz.underlying138, rfl, rfl, rfl, _, IC.size, (by decide)⟩⟩
instance f130_1 : FC Tryz.prog 130 1 1 3 := ⟨⟨_, _, Tryz.underlying130, rfl, rfl, rfl, _, IC.size, (by decide)⟩⟩
instance f130_2 : FC Tryz.prog 130 2 2 3 := ⟨⟨_, _, Tryz.underlying130, rfl, rfl, rfl, _, IC.size, (by decide)⟩⟩
instance f133_2 : FC Tryz.prog 133 2 2 125 := ⟨⟨_, _, Tryz.underlying133, rfl, rfl, rfl, _, IC.size, (by decide)⟩⟩
instance f136_1 : FC Tryz.prog 136 1 1 3 := ⟨⟨_, _, Tryz.underlying136, rfl, rfl, rfl, _, IC.size, (by decide)⟩⟩
instance f147_1 : FC Tryz.prog 147 1 1 3 := ⟨⟨_, _, Tryz.underlying147, rfl, rfl, rfl, _, IC.size, (by decide)⟩⟩
instance f152_1 : FC Tryz.prog 152 1 1 148 := ⟨⟨_, _, Tryz.underlying152, rfl, rfl, rfl, _, IC.size, (by decide)⟩⟩
instance f185_0 : FC Tryz.prog 185 0 0 25 := ⟨⟨_, _, Tryz.underlying185, rfl, rfl, rfl, _, IC.size, (by decide)⟩⟩
instance f133_1 : FC Tryz.prog 133 1 1 3 := ⟨⟨_, _, Tryz.underlying133, rfl, rfl, rfl, _, IC.size, (by decide)⟩⟩
instance f150_1 : FC Tryz.prog 150 1 1 87 := ⟨⟨_, _, Tryz.underlying150, rfl, rfl, rfl, _, IC.size, (by decide)⟩⟩
instance b30 : BC Tryz.prog 30 [(0, 1), (1, 1), (2, 1), (3, 1), (4, 1), (5, 4), (9, 1), (10, 1), (11, 1)] [.int .i64 0, .int .i64 0, .int .i64 0, .int .i64 0, .int .i64 0, .int .i64 0, .int .i64 0, .int .i64 0, .int .i64 0, .slice none 0 0, .slice none 0 0, .bool false] := ⟨⟨_, _, Tryz.underlying30, IC.zero, rfl, rfl, fun i f h => by
    match i, h with
    | 0, h => cases h; exact ⟨_, _, rfl, rfl, IC.size⟩
    | 1, h => cases h; exact ⟨_, _, rfl, rfl, IC.size⟩
    | 2, h => cases h; exact ⟨_, _, rfl, rfl, IC.size⟩
    | 3, h => cases h; exact ⟨_, _, rfl, rfl, IC.size⟩
    | 4, h => cases h; exact ⟨_, _, rfl, rfl, IC.size⟩
    | 5, h => cases h; exact ⟨_, _, rfl, rfl, IC.size⟩
    | 6, h => cases h; exact ⟨_, _, rfl, rfl, IC.size⟩
    | 7, h => cases h; exact ⟨_, _, rfl, rfl, IC.size⟩
    | 8, h => cases h; exact ⟨_, _, rfl, rfl, IC.size⟩
    | _ + 9, h => cases h⟩⟩
instance b24 : BC Tryz.prog 24 [(0, 1), (1, 1), (2, 1), (3, 1), (4, 1), (5, 1), (6, 1), (7, 1), (8, 1), (9, 1), (10, 1), (11, 1), (12, 1)] [.int .i64 0, .int .i64 0, .int .i64 0, .int .i64 0, .int .i64 0, .int .i64 0, .int .i64 0, .int .i64 0, .int .i64 0, .string ByteArray.empty, .string ByteArray.empty, .string ByteArray.empty, .slice none 0 0] := ⟨⟨_, _, Tryz.underlying24, IC.zero, rfl, rfl, fun i f h => by
    match i, h with
    | 0, h => cases h; exact ⟨_, _, rfl, rfl, IC.size⟩
    | 1, h => cases h; exact ⟨_, _, rfl, rfl, IC.size⟩
    | 2, h => cases h; exact ⟨_, _, rfl, rfl, IC.size⟩
    | 3, h => cases h; exact ⟨_, _, rfl, rfl, IC.size⟩
    | 4, h => cases h; exact ⟨_, _, rfl, rfl, IC.size⟩
    | 5, h => cases h; exact ⟨_, _, rfl, rfl, IC.size⟩
    | 6, h => cases h; exact ⟨_, _, rfl, rfl, IC.size⟩
    | 7, h => cases h; exact ⟨_, _, rfl, rfl, IC.size⟩
    | 8, h => cases h; exact ⟨_, _, rfl, rfl, IC.size⟩
    | 9, h => cases h; exact ⟨_, _, rfl, rfl, IC.size⟩
    | 10, h => cases h; exact ⟨_, _, rfl, rfl, IC.size⟩
    | 11, h => cases h; exact ⟨_, _, rfl, rfl, IC.size⟩
    | 12, h => cases h; exact ⟨_, _, rfl, rfl, IC.size⟩
    | _ + 13, h => cases h⟩⟩
instance b27 : BC Tryz.prog 27 [(0, 1), (1, 1), (2, 1), (3, 1)] [.int .i64 0, .int .i64 0, .int .i64 0, .int .i64 0] := ⟨⟨_, _, Tryz.underlying27, IC.zero, rfl, rfl, fun i f h => by
    match i, h with
    | 0, h => cases h; exact ⟨_, _, rfl, rfl, IC.size⟩
    | 1, h => cases h; exact ⟨_, _, rfl, rfl, IC.size⟩
    | 2, h => cases h; exact ⟨_, _, rfl, rfl, IC.size⟩
    | 3, h => cases h; exact ⟨_, _, rfl, rfl, IC.size⟩
    | _ + 4, h => cases h⟩⟩
instance b94 : BC Tryz.prog 94 [(0, 1), (1, 1), (2, 1)] [.string ByteArray.empty, .int .i64 0, .int .i64 0] := ⟨⟨_, _, Tryz.underlying94, IC.zero, rfl, rfl, fun i f h => by
    match i, h with
    | 0, h => cases h; exact ⟨_, _, rfl, rfl, IC.size⟩
    | 1, h => cases h; exact ⟨_, _, rfl, rfl, IC.size⟩
    | 2, h => cases h; exact ⟨_, _, rfl, rfl, IC.size⟩
    | _ + 3, h => cases h⟩⟩
instance b165 : BC Tryz.prog 165 [(0, 1), (1, 1), (2, 1), (3, 1)] [.slice none 0 0, .int .i64 0, .int .i64 0, .int .i64 0] := ⟨⟨_, _, Tryz.underlying165, IC.zero, rfl, rfl, fun i f h => by
    match i, h with
    | 0, h => cases h; exact ⟨_, _, rfl, rfl, IC.size⟩
    | 1, h => cases h; exact ⟨_, _, rfl, rfl, IC.size⟩
    | 2, h => cases h; exact ⟨_, _, rfl, rfl, IC.size⟩
    | 3, h => cases h; exact ⟨_, _, rfl, rfl, IC.size⟩
    | _ + 4, h => cases h⟩⟩
instance b147 : BC Tryz.prog 147 [(0, 1), (1, 1)] [.pointer none, .int .i64 0] := ⟨⟨_, _, Tryz.underlying147, IC.zero, rfl, rfl, fun i f h => by
    match i, h with
    | 0, h => cases h; exact ⟨_, _, rfl, rfl, IC.size⟩
    | 1, h => cases h; exact ⟨_, _, rfl, rfl, IC.size⟩
    | _ + 2, h => cases h⟩⟩
instance b67 : BC Tryz.prog 67 [(0, 1), (1, 1), (2, 1)] [.slice none 0 0, .slice none 0 0, .slice none 0 0] := ⟨⟨_, _, Tryz.underlying67, IC.zero, rfl, rfl, fun i f h => by
    match i, h with
    | 0, h => cases h; exact ⟨_, _, rfl, rfl, IC.size⟩
    | 1, h => cases h; exact ⟨_, _, rfl, rfl, IC.size⟩
    | 2, h => cases h; exact ⟨_, _, rfl, rfl, IC.size⟩
    | _ + 3, h => cases h⟩⟩
instance b133 : BC Tryz.prog 133 [(0, 1), (1, 1), (2, 1)] [.pointer none, .int .i64 0, .nilFunc] := ⟨⟨_, _, Tryz.underlying133, IC.zero, rfl, rfl, fun i f h => by
    match i, h with
    | 0, h => cases h; exact ⟨_, _, rfl, rfl, IC.size⟩
    | 1, h => cases h; exact ⟨_, _, rfl, rfl, IC.size⟩
    | 2, h => cases h; exact ⟨_, _, rfl, rfl, IC.size⟩
    | _ + 3, h => cases h⟩⟩
instance b130 : BC Tryz.prog 130 [(0, 1), (1, 1), (2, 1)] [.pointer none, .int .i64 0, .int .i64 0] := ⟨⟨_, _, Tryz.underlying130, IC.zero, rfl, rfl, fun i f h => by
    match i, h with
    | 0, h => cases h; exact ⟨_, _, rfl, rfl, IC.size⟩
    | 1, h => cases h; exact ⟨_, _, rfl, rfl, IC.size⟩
    | 2, h => cases h; exact ⟨_, _, rfl, rfl, IC.size⟩
    | _ + 3, h => cases h⟩⟩
instance b136 : BC Tryz.prog 136 [(0, 1), (1, 1)] [.pointer none, .int .i64 0] := ⟨⟨_, _, Tryz.underlying136, IC.zero, rfl, rfl, fun i f h => by
    match i, h with
    | 0, h => cases h; exact ⟨_, _, rfl, rfl, IC.size⟩
    | 1, h => cases h; exact ⟨_, _, rfl, rfl, IC.size⟩
    | _ + 2, h => cases h⟩⟩
instance b150 : BC Tryz.prog 150 [(0, 1), (1, 1)] [.pointer none, .pointer none] := ⟨⟨_, _, Tryz.underlying150, IC.zero, rfl, rfl, fun i f h => by
    match i, h with
    | 0, h => cases h; exact ⟨_, _, rfl, rfl, IC.size⟩
    | 1, h => cases h; exact ⟨_, _, rfl, rfl, IC.size⟩
    | _ + 2, h => cases h⟩⟩
instance b152 : BC Tryz.prog 152 [(0, 1), (1, 1)] [.pointer none, .pointer none] := ⟨⟨_, _, Tryz.underlying152, IC.zero, rfl, rfl, fun i f h => by
    match i, h with
    | 0, h => cases h; exact ⟨_, _, rfl, rfl, IC.size⟩
    | 1, h => cases h; exact ⟨_, _, rfl, rfl, IC.size⟩
    | _ + 2, h => cases h⟩⟩
instance b128 : BC Tryz.prog 128 [(0, 1)] [.pointer none] := ⟨⟨_, _, Tryz.underlying128, IC.zero, rfl, rfl, fun i f h => by
    match i, h with
    | 0, h => cases h; exact ⟨_, _, rfl, rfl, IC.size⟩
    | _ + 1, h => cases h⟩⟩
instance b185 : BC Tryz.prog 185 [(0, 1)] [.int .i64 0] := ⟨⟨_, _, Tryz.underlying185, IC.zero, rfl, rfl, fun i f h => by
    match i, h with
    | 0, h => cases h; exact ⟨_, _, rfl, rfl, IC.size⟩
    | _ + 1, h => cases h⟩⟩
instance e12 : EC Tryz.prog 12 := ⟨Enters.mk Tryz.func12 (by kernel_rfl) (by kernel_rfl)⟩
instance e14 : EC Tryz.prog 14 := ⟨Enters.mk Tryz.func14 (by kernel_rfl) (by kernel_rfl)⟩
instance e15 : EC Tryz.prog 15 := ⟨Enters.mk Tryz.func15 (by kernel_rfl) (by kernel_rfl)⟩
instance e16 : EC Tryz.prog 16 := ⟨Enters.mk Tryz.func16 (by kernel_rfl) (by kernel_rfl)⟩
instance e18 : EC Tryz.prog 18 := ⟨Enters.mk Tryz.func18 (by kernel_rfl) (by kernel_rfl)⟩
instance e20 : EC Tryz.prog 20 := ⟨Enters.mk Tryz.func20 (by kernel_rfl) (by kernel_rfl)⟩
instance e21 : EC Tryz.prog 21 := ⟨Enters.mk Tryz.func21 (by kernel_rfl) (by kernel_rfl)⟩
instance e23 : EC Tryz.prog 23 := ⟨Enters.mk Tryz.func23 (by kernel_rfl) (by kernel_rfl)⟩
instance e24 : EC Tryz.prog 24 := ⟨Enters.mk Tryz.func24 (by kernel_rfl) (by kernel_rfl)⟩
instance e25 : EC Tryz.prog 25 := ⟨Enters.mk Tryz.func25 (by kernel_rfl) (by kernel_rfl)⟩
instance e26 : EC Tryz.prog 26 := ⟨Enters.mk Tryz.func26 (by kernel_rfl) (by kernel_rfl)⟩
instance e28 : EC Tryz.prog 28 := ⟨Enters.mk Tryz.func28 (by kernel_rfl) (by kernel_rfl)⟩
instance e29 : EC Tryz.prog 29 := ⟨Enters.mk Tryz.func29 (by kernel_rfl) (by kernel_rfl)⟩
instance e32 : EC Tryz.prog 32 := ⟨Enters.mk Tryz.func32 (by kernel_rfl) (by kernel_rfl)⟩
instance e33 : EC Tryz.prog 33 := ⟨Enters.mk Tryz.func33 (by kernel_rfl) (by kernel_rfl)⟩
instance e34 : EC Tryz.prog 34 := ⟨Enters.mk Tryz.func34 (by kernel_rfl) (by kernel_rfl)⟩
instance e35 : EC Tryz.prog 35 := ⟨Enters.mk Tryz.func35 (by kernel_rfl) (by kernel_rfl)⟩
instance e36 : EC Tryz.prog 36 := ⟨Enters.mk Tryz.func36 (by kernel_rfl) (by kernel_rfl)⟩
instance e37 : EC Tryz.prog 37 := ⟨Enters.mk Tryz.func37 (by kernel_rfl) (by kernel_rfl)⟩
instance e38 : EC Tryz.prog 38 := ⟨Enters.mk Tryz.func38 (by kernel_rfl) (by kernel_rfl)⟩
instance e40 : EC Tryz.prog 40 := ⟨Enters.mk Tryz.func40 (by kernel_rfl) (by kernel_rfl)⟩
instance e44 : EC Tryz.prog 44 := ⟨Enters.mk Tryz.func44 (by kernel_rfl) (by kernel_rfl)⟩
instance e45 : EC Tryz.prog 45 := ⟨Enters.mk Tryz.func45 (by kernel_rfl) (by kernel_rfl)⟩
instance e46 : EC Tryz.prog 46 := ⟨Enters.mk Tryz.func46 (by kernel_rfl) (by kernel_rfl)⟩
instance e47 : EC Tryz.prog 47 := ⟨Enters.mk Tryz.func47 (by kernel_rfl) (by kernel_rfl)⟩
instance e48 : EC Tryz.prog 48 := ⟨Enters.mk Tryz.func48 (by kernel_rfl) (by kernel_rfl)⟩
instance e49 : EC Tryz.prog 49 := ⟨Enters.mk Tryz.func49 (by kernel_rfl) (by kernel_rfl)⟩
instance e51 : EC Tryz.prog 51 := ⟨Enters.mk Tryz.func51 (by kernel_rfl) (by kernel_rfl)⟩
instance e52 : EC Tryz.prog 52 := ⟨Enters.mk Tryz.func52 (by kernel_rfl) (by kernel_rfl)⟩
instance e53 : EC Tryz.prog 53 := ⟨Enters.mk Tryz.func53 (by kernel_rfl) (by kernel_rfl)⟩
instance e54 : EC Tryz.prog 54 := ⟨Enters.mk Tryz.func54 (by kernel_rfl) (by kernel_rfl)⟩
instance e55 : EC Tryz.prog 55 := ⟨Enters.mk Tryz.func55 (by kernel_rfl) (by kernel_rfl)⟩
instance e56 : EC Tryz.prog 56 := ⟨Enters.mk Tryz.func56 (by kernel_rfl) (by kernel_rfl)⟩
instance e57 : EC Tryz.prog 57 := ⟨Enters.mk Tryz.func57 (by kernel_rfl) (by kernel_rfl)⟩
instance e58 : EC Tryz.prog 58 := ⟨Enters.mk Tryz.func58 (by kernel_rfl) (by kernel_rfl)⟩
instance e59 : EC Tryz.prog 59 := ⟨Enters.mk Tryz.func59 (by kernel_rfl) (by kernel_rfl)⟩
instance e60 : EC Tryz.prog 60 := ⟨Enters.mk Tryz.func60 (by kernel_rfl) (by kernel_rfl)⟩
instance e61 : EC Tryz.prog 61 := ⟨Enters.mk Tryz.func61 (by kernel_rfl) (by kernel_rfl)⟩
instance e62 : EC Tryz.prog 62 := ⟨Enters.mk Tryz.func62 (by kernel_rfl) (by kernel_rfl)⟩
instance e63 : EC Tryz.prog 63 := ⟨Enters.mk Tryz.func63 (by kernel_rfl) (by kernel_rfl)⟩
instance e64 : EC Tryz.prog 64 := ⟨Enters.mk Tryz.func64 (by kernel_rfl) (by kernel_rfl)⟩
instance e65 : EC Tryz.prog 65 := ⟨Enters.mk Tryz.func65 (by kernel_rfl) (by kernel_rfl)⟩
instance e66 : EC Tryz.prog 66 := ⟨Enters.mk Tryz.func66 (by kernel_rfl) (by kernel_rfl)⟩
instance e67 : EC Tryz.prog 67 := ⟨Enters.mk Tryz.func67 (by kernel_rfl) (by kernel_rfl)⟩
instance e68 : EC Tryz.prog 68 := ⟨Enters.mk Tryz.func68 (by kernel_rfl) (by kernel_rfl)⟩
instance e69 : EC Tryz.prog 69 := ⟨Enters.mk Tryz.func69 (by kernel_rfl) (by kernel_rfl)⟩
instance e70 : EC Tryz.prog 70 := ⟨Enters.mk Tryz.func70 (by kernel_rfl) (by kernel_rfl)⟩
instance e71 : EC Tryz.prog 71 := ⟨Enters.mk Tryz.func71 (by kernel_rfl) (by kernel_rfl)⟩
instance e72 : EC Tryz.prog 72 := ⟨Enters.mk Tryz.func72 (by kernel_rfl) (by kernel_rfl)⟩
instance e73 : EC Tryz.prog 73 := ⟨Enters.mk Tryz.func73 (by kernel_rfl) (by kernel_rfl)⟩
instance e74 : EC Tryz.prog 74 := ⟨Enters.mk Tryz.func74 (by kernel_rfl) (by kernel_rfl)⟩
instance e79 : EC Tryz.prog 79 := ⟨Enters.mk Tryz.func79 (by kernel_rfl) (by kernel_rfl)⟩
instance e80 : EC Tryz.prog 80 := ⟨Enters.mk Tryz.func80 (by kernel_rfl) (by kernel_rfl)⟩
instance e84 : EC Tryz.prog 84 := ⟨Enters.mk Tryz.func84 (by kernel_rfl) (by kernel_rfl)⟩
instance e86 : EC Tryz.prog 86 := ⟨Enters.mk Tryz.func86 (by kernel_rfl) (by kernel_rfl)⟩
instance e87 : EC Tryz.prog 87 := ⟨Enters.mk Tryz.func87 (by kernel_rfl) (by kernel_rfl)⟩
instance e88 : EC Tryz.prog 88 := ⟨Enters.mk Tryz.func88 (by kernel_rfl) (by kernel_rfl)⟩
instance e89 : EC Tryz.prog 89 := ⟨Enters.mk Tryz.func89 (by kernel_rfl) (by kernel_rfl)⟩
instance e90 : EC Tryz.prog 90 := ⟨Enters.mk Tryz.func90 (by kernel_rfl) (by kernel_rfl)⟩
instance e91 : EC Tryz.prog 91 := ⟨Enters.mk Tryz.func91 (by kernel_rfl) (by kernel_rfl)⟩
instance e92 : EC Tryz.prog 92 := ⟨Enters.mk Tryz.func92 (by kernel_rfl) (by kernel_rfl)⟩
instance e93 : EC Tryz.prog 93 := ⟨Enters.mk Tryz.func93 (by kernel_rfl) (by kernel_rfl)⟩
instance e94 : EC Tryz.prog 94 := ⟨Enters.mk Tryz.func94 (by kernel_rfl) (by kernel_rfl)⟩
instance e95 : EC Tryz.prog 95 := ⟨Enters.mk Tryz.func95 (by kernel_rfl) (by kernel_rfl)⟩
instance e96 : EC Tryz.prog 96 := ⟨Enters.mk Tryz.func96 (by kernel_rfl) (by kernel_rfl)⟩
instance e97 : EC Tryz.prog 97 := ⟨Enters.mk Tryz.func97 (by kernel_rfl) (by kernel_rfl)⟩
instance e98 : EC Tryz.prog 98 := ⟨Enters.mk Tryz.func98 (by kernel_rfl) (by kernel_rfl)⟩
instance e99 : EC Tryz.prog 99 := ⟨Enters.mk Tryz.func99 (by kernel_rfl) (by kernel_rfl)⟩
instance e100 : EC Tryz.prog 100 := ⟨Enters.mk Tryz.func100 (by kernel_rfl) (by kernel_rfl)⟩
instance e101 : EC Tryz.prog 101 := ⟨Enters.mk Tryz.func101 (by kernel_rfl) (by kernel_rfl)⟩
instance e102 : EC Tryz.prog 102 := ⟨Enters.mk Tryz.func102 (by kernel_rfl) (by kernel_rfl)⟩
instance e103 : EC Tryz.prog 103 := ⟨Enters.mk Tryz.func103 (by kernel_rfl) (by kernel_rfl)⟩
instance e104 : EC Tryz.prog 104 := ⟨Enters.mk Tryz.func104 (by kernel_rfl) (by kernel_rfl)⟩
instance e105 : EC Tryz.prog 105 := ⟨Enters.mk Tryz.func105 (by kernel_rfl) (by kernel_rfl)⟩
instance e106 : EC Tryz.prog 106 := ⟨Enters.mk Tryz.func106 (by kernel_rfl) (by kernel_rfl)⟩
instance e107 : EC Tryz.prog 107 := ⟨Enters.mk Tryz.func107 (by kernel_rfl) (by kernel_rfl)⟩
instance e108 : EC Tryz.prog 108 := ⟨Enters.mk Tryz.func108 (by kernel_rfl) (by kernel_rfl)⟩
instance e109 : EC Tryz.prog 109 := ⟨Enters.mk Tryz.func109 (by kernel_rfl) (by kernel_rfl)⟩
instance e110 : EC Tryz.prog 110 := ⟨Enters.mk Tryz.func110 (by kernel_rfl) (by kernel_rfl)⟩
instance e111 : EC Tryz.prog 111 := ⟨Enters.mk Tryz.func111 (by kernel_rfl) (by kernel_rfl)⟩
instance e112 : EC Tryz.prog 112 := ⟨Enters.mk Tryz.func112 (by kernel_rfl) (by kernel_rfl)⟩
instance e113 : EC Tryz.prog 113 := ⟨Enters.mk Tryz.func113 (by kernel_rfl) (by kernel_rfl)⟩
instance e114 : EC Tryz.prog 114 := ⟨Enters.mk Tryz.func114 (by kernel_rfl) (by kernel_rfl)⟩
instance e115 : EC Tryz.prog 115 := ⟨Enters.mk Tryz.func115 (by kernel_rfl) (by kernel_rfl)⟩
instance e121 : EC Tryz.prog 121 := ⟨Enters.mk Tryz.func121 (by kernel_rfl) (by kernel_rfl)⟩
instance e122 : EC Tryz.prog 122 := ⟨Enters.mk Tryz.func122 (by kernel_rfl) (by kernel_rfl)⟩
instance e123 : EC Tryz.prog 123 := ⟨Enters.mk Tryz.func123 (by kernel_rfl) (by kernel_rfl)⟩
instance e124 : EC Tryz.prog 124 := ⟨Enters.mk Tryz.func124 (by kernel_rfl) (by kernel_rfl)⟩
instance e125 : EC Tryz.prog 125 := ⟨Enters.mk Tryz.func125 (by kernel_rfl) (by kernel_rfl)⟩
instance e126 : EC Tryz.prog 126 := ⟨Enters.mk Tryz.func126 (by kernel_rfl) (by kernel_rfl)⟩
instance e127 : EC Tryz.prog 127 := ⟨Enters.mk Tryz.func127 (by kernel_rfl) (by kernel_rfl)⟩
instance e128 : EC Tryz.prog 128 := ⟨Enters.mk Tryz.func128 (by kernel_rfl) (by kernel_rfl)⟩
instance e129 : EC Tryz.prog 129 := ⟨Enters.mk Tryz.func129 (by kernel_rfl) (by kernel_rfl)⟩
instance e130 : EC Tryz.prog 130 := ⟨Enters.mk Tryz.func130 (by kernel_rfl) (by kernel_rfl)⟩
instance e131 : EC Tryz.prog 131 := ⟨Enters.mk Tryz.func131 (by kernel_rfl) (by kernel_rfl)⟩
instance e132 : EC Tryz.prog 132 := ⟨Enters.mk Tryz.func132 (by kernel_rfl) (by kernel_rfl)⟩
instance e133 : EC Tryz.prog 133 := ⟨Enters.mk Tryz.func133 (by kernel_rfl) (by kernel_rfl)⟩
instance e134 : EC Tryz.prog 134 := ⟨Enters.mk Tryz.func134 (by kernel_rfl) (by kernel_rfl)⟩
instance e135 : EC Tryz.prog 135 := ⟨Enters.mk Tryz.func135 (by kernel_rfl) (by kernel_rfl)⟩
instance e137 : EC Tryz.prog 137 := ⟨Enters.mk Tryz.func137 (by kernel_rfl) (by kernel_rfl)⟩
instance e138 : EC Tryz.prog 138 := ⟨Enters.mk Tryz.func138 (by kernel_rfl) (by kernel_rfl)⟩
instance e140 : EC Tryz.prog 140 := ⟨Enters.mk Tryz.func140 (by kernel_rfl) (by kernel_rfl)⟩
instance e144 : EC Tryz.prog 144 := ⟨Enters.mk Tryz.func144 (by kernel_rfl) (by kernel_rfl)⟩
instance e169 : EC Tryz.prog 169 := ⟨Enters.mk Tryz.func169 (by kernel_rfl) (by kernel_rfl)⟩
instance e170 : EC Tryz.prog 170 := ⟨Enters.mk Tryz.func170 (by kernel_rfl) (by kernel_rfl)⟩
instance e171 : EC Tryz.prog 171 := ⟨Enters.mk Tryz.func171 (by kernel_rfl) (by kernel_rfl)⟩
instance e172 : EC Tryz.prog 172 := ⟨Enters.mk Tryz.func172 (by kernel_rfl) (by kernel_rfl)⟩
instance e173 : EC Tryz.prog 173 := ⟨Enters.mk Tryz.func173 (by kernel_rfl) (by kernel_rfl)⟩
instance e174 : EC Tryz.prog 174 := ⟨Enters.mk Tryz.func174 (by kernel_rfl) (by kernel_rfl)⟩
instance e175 : EC Tryz.prog 175 := ⟨Enters.mk Tryz.func175 (by kernel_rfl) (by kernel_rfl)⟩
instance e176 : EC Tryz.prog 176 := ⟨Enters.mk Tryz.func176 (by kernel_rfl) (by kernel_rfl)⟩
instance e177 : EC Tryz.prog 177 := ⟨Enters.mk Tryz.func177 (by kernel_rfl) (by kernel_rfl)⟩
instance e178 : EC Tryz.prog 178 := ⟨Enters.mk Tryz.func178 (by kernel_rfl) (by kernel_rfl)⟩
instance e179 : EC Tryz.prog 179 := ⟨Enters.mk Tryz.func179 (by kernel_rfl) (by kernel_rfl)⟩
instance e180 : EC Tryz.prog 180 := ⟨Enters.mk Tryz.func180 (by kernel_rfl) (by kernel_rfl)⟩
instance e181 : EC Tryz.prog 181 := ⟨Enters.mk Tryz.func181 (by kernel_rfl) (by kernel_rfl)⟩
instance e182 : EC Tryz.prog 182 := ⟨Enters.mk Tryz.func182 (by kernel_rfl) (by kernel_rfl)⟩
instance e183 : EC Tryz.prog 183 := ⟨Enters.mk Tryz.func183 (by kernel_rfl) (by kernel_rfl)⟩
instance e184 : EC Tryz.prog 184 := ⟨Enters.mk Tryz.func184 (by kernel_rfl) (by kernel_rfl)⟩
instance e185 : EC Tryz.prog 185 := ⟨Enters.mk Tryz.func185 (by kernel_rfl) (by kernel_rfl)⟩
instance e186 : EC Tryz.prog 186 := ⟨Enters.mk Tryz.func186 (by kernel_rfl) (by kernel_rfl)⟩
instance e187 : EC Tryz.prog 187 := ⟨Enters.mk Tryz.func187 (by kernel_rfl) (by kernel_rfl)⟩
instance e188 : EC Tryz.prog 188 := ⟨Enters.mk Tryz.func188 (by kernel_rfl) (by kernel_rfl)⟩
instance e189 : EC Tryz.prog 189 := ⟨Enters.mk Tryz.func189 (by kernel_rfl) (by kernel_rfl)⟩
instance e190 : EC Tryz.prog 190 := ⟨Enters.mk Tryz.func190 (by kernel_rfl) (by kernel_rfl)⟩
instance e191 : EC Tryz.prog 191 := ⟨Enters.mk Tryz.func191 (by kernel_rfl) (by kernel_rfl)⟩
instance e192 : EC Tryz.prog 192 := ⟨Enters.mk Tryz.func192 (by kernel_rfl) (by kernel_rfl)⟩
instance e193 : EC Tryz.prog 193 := ⟨Enters.mk Tryz.func193 (by kernel_rfl) (by kernel_rfl)⟩
instance e194 : EC Tryz.prog 194 := ⟨Enters.mk Tryz.func194 (by kernel_rfl) (by kernel_rfl)⟩
instance e195 : EC Tryz.prog 195 := ⟨Enters.mk Tryz.func195 (by kernel_rfl) (by kernel_rfl)⟩
instance e196 : EC Tryz.prog 196 := ⟨Enters.mk Tryz.func196 (by kernel_rfl) (by kernel_rfl)⟩
instance e198 : EC Tryz.prog 198 := ⟨Enters.mk Tryz.func198 (by kernel_rfl) (by kernel_rfl)⟩
end Go.Proofs.YtfolhmlldoepfaaGreatDoor
