import Derived.Test.YtjnnlfeohbidhaaDoorEngA
import Derived.Test.YtjnnlfeohbidhaaDoorProg
namespace Go.Proofs.YtjnnlfeohbidhaaDoor
open Go Go.Proofs
set_option maxRecDepth 20000
theorem i_of {P : Program} {t s b : Nat} {z : Value} (h1 : (P.info? t).map (fun i => (i.size, i.bytes, i.zero)) = some (s, b, some z)) : ∃ i, P.info? t = some i ∧ i.size = s ∧ i.bytes = b ∧ i.zero = some z := by
  simp only [Option.map_eq_some_iff, Prod.mk.injEq] at h1
  obtain ⟨j, h3, h4, h5, h6⟩ := h1
  exact ⟨j, h3, h4, h5, h6⟩
instance u3 : UC Tryd.prog 3 (Go.TypeDesc.int Go.IntKind.i64) := ⟨Tryd.underlying3⟩
instance i3 : IC Tryd.prog 3 1 8 (.int .i64 0) := ⟨i_of (by kernel_rfl)⟩
instance u22 : UC Tryd.prog 22 (Go.TypeDesc.slice 5) := ⟨Tryd.underlying22⟩
instance i22 : IC Tryd.prog 22 1 24 (.slice none 0 0) := ⟨i_of (by kernel_rfl)⟩
instance u46 : UC Tryd.prog 46 (Go.TypeDesc.pointer 75) := ⟨Tryd.underlying46⟩
instance i46 : IC Tryd.prog 46 1 8 (.pointer none) := ⟨i_of (by kernel_rfl)⟩
instance u1 : UC Tryd.prog 1 (Go.TypeDesc.func #[] #[] Bool.false) := ⟨Tryd.underlying1⟩
instance i1 : IC Tryd.prog 1 1 8 (.nilFunc) := ⟨i_of (by kernel_rfl)⟩
instance u28 : UC Tryd.prog 28 (Go.TypeDesc.struct #[{ name := "Kind", type := 3, offset := 0, embedded := Bool.false, tag := "", pkgPath := "", byteOffset := 0 }, { name := "X", type := 3, offset := 1, embedded := Bool.false, tag := "", pkgPath := "", byteOffset := 8 }, { name := "S", type := 26, offset := 2, embedded := Bool.false, tag := "", pkgPath := "", byteOffset := 16 }, { name := "D", type := 22, offset := 3, embedded := Bool.false, tag := "", pkgPath := "", byteOffset := 24 }]) := ⟨Tryd.underlying28⟩
instance i28 : IC Tryd.prog 28 4 48 (.agg #[.int .i64 0, .int .i64 0, .int .u64 0, .slice none 0 0]) := ⟨i_of (by kernel_rfl)⟩
instance u4 : UC Tryd.prog 4 (Go.TypeDesc.bool) := ⟨Tryd.underlying4⟩
instance i4 : IC Tryd.prog 4 1 1 (.bool false) := ⟨i_of (by kernel_rfl)⟩
instance u26 : UC Tryd.prog 26 (Go.TypeDesc.int Go.IntKind.u64) := ⟨Tryd.underlying26⟩
instance i26 : IC Tryd.prog 26 1 8 (.int .u64 0) := ⟨i_of (by kernel_rfl)⟩
instance u5 : UC Tryd.prog 5 (Go.TypeDesc.int Go.IntKind.u8) := ⟨Tryd.underlying5⟩
instance i5 : IC Tryd.prog 5 1 1 (.int .u8 0) := ⟨i_of (by kernel_rfl)⟩
instance u50 : UC Tryd.prog 50 (Go.TypeDesc.int Go.IntKind.i64) := ⟨Tryd.underlying50⟩
instance i50 : IC Tryd.prog 50 1 8 (.int .i64 0) := ⟨i_of (by kernel_rfl)⟩
instance u23 : UC Tryd.prog 23 (Go.TypeDesc.slice 28) := ⟨Tryd.underlying23⟩
instance i23 : IC Tryd.prog 23 1 24 (.slice none 0 0) := ⟨i_of (by kernel_rfl)⟩
instance u85 : UC Tryd.prog 85 (Go.TypeDesc.interface #[("Error", 127)]) := ⟨Tryd.underlying85⟩
instance i85 : IC Tryd.prog 85 1 16 (.nilIface) := ⟨i_of (by kernel_rfl)⟩
instance u37 : UC Tryd.prog 37 (Go.TypeDesc.slice 22) := ⟨Tryd.underlying37⟩
instance i37 : IC Tryd.prog 37 1 24 (.slice none 0 0) := ⟨i_of (by kernel_rfl)⟩
instance u2 : UC Tryd.prog 2 (Go.TypeDesc.int Go.IntKind.i64) := ⟨Tryd.underlying2⟩
instance i2 : IC Tryd.prog 2 1 8 (.int .i64 0) := ⟨i_of (by kernel_rfl)⟩
instance u79 : UC Tryd.prog 79 (Go.TypeDesc.struct #[{ name := "B", type := 22, offset := 0, embedded := Bool.false, tag := "", pkgPath := "", byteOffset := 0 }, { name := "At", type := 3, offset := 1, embedded := Bool.false, tag := "", pkgPath := "", byteOffset := 24 }, { name := "E", type := 3, offset := 2, embedded := Bool.false, tag := "", pkgPath := "", byteOffset := 32 }]) := ⟨Tryd.underlying79⟩
instance i79 : IC Tryd.prog 79 3 40 (.agg #[.slice none 0 0, .int .i64 0, .int .i64 0]) := ⟨i_of (by kernel_rfl)⟩
instance u59 : UC Tryd.prog 59 (Go.TypeDesc.pointer 79) := ⟨Tryd.underlying59⟩
instance i59 : IC Tryd.prog 59 1 8 (.pointer none) := ⟨i_of (by kernel_rfl)⟩
instance u103 : UC Tryd.prog 103 (Go.TypeDesc.struct #[{ name := "typ_", type := 17, offset := 0, embedded := Bool.false, tag := "", pkgPath := "internal/reflectlite", byteOffset := 0 }, { name := "ptr", type := 100, offset := 1, embedded := Bool.false, tag := "", pkgPath := "internal/reflectlite", byteOffset := 8 }, { name := "flag", type := 101, offset := 2, embedded := Bool.true, tag := "", pkgPath := "internal/reflectlite", byteOffset := 16 }]) := ⟨Tryd.underlying103⟩
instance i103 : IC Tryd.prog 103 3 24 (.agg #[.pointer none, .pointer none, .int .u64 0]) := ⟨i_of (by kernel_rfl)⟩
instance u9 : UC Tryd.prog 9 (Go.TypeDesc.string) := ⟨Tryd.underlying9⟩
instance i9 : IC Tryd.prog 9 1 16 (.string ByteArray.empty) := ⟨i_of (by kernel_rfl)⟩
instance u75 : UC Tryd.prog 75 (Go.TypeDesc.struct #[{ name := "b", type := 22, offset := 0, embedded := Bool.false, tag := "", pkgPath := "annex/bits", byteOffset := 0 }, { name := "at", type := 3, offset := 1, embedded := Bool.false, tag := "", pkgPath := "annex/bits", byteOffset := 24 }, { name := "next", type := 3, offset := 2, embedded := Bool.false, tag := "", pkgPath := "annex/bits", byteOffset := 32 }, { name := "err", type := 50, offset := 3, embedded := Bool.false, tag := "", pkgPath := "annex/bits", byteOffset := 40 }]) := ⟨Tryd.underlying75⟩
instance i75 : IC Tryd.prog 75 4 48 (.agg #[.slice none 0 0, .int .i64 0, .int .i64 0, .int .i64 0]) := ⟨i_of (by kernel_rfl)⟩
instance u20 : UC Tryd.prog 20 (Go.TypeDesc.interface #[]) := ⟨Tryd.underlying20⟩
instance i20 : IC Tryd.prog 20 1 16 (.nilIface) := ⟨i_of (by kernel_rfl)⟩
instance u38 : UC Tryd.prog 38 (Go.TypeDesc.slice 3) := ⟨Tryd.underlying38⟩
instance i38 : IC Tryd.prog 38 1 24 (.slice none 0 0) := ⟨i_of (by kernel_rfl)⟩
instance u36 : UC Tryd.prog 36 (Go.TypeDesc.pointer 40) := ⟨Tryd.underlying36⟩
instance i36 : IC Tryd.prog 36 1 8 (.pointer none) := ⟨i_of (by kernel_rfl)⟩
instance u62 : UC Tryd.prog 62 (Go.TypeDesc.struct #[{ name := "Kind", type := 3, offset := 0, embedded := Bool.false, tag := "", pkgPath := "", byteOffset := 0 }, { name := "Second", type := 4, offset := 1, embedded := Bool.false, tag := "", pkgPath := "", byteOffset := 8 }, { name := "Most", type := 3, offset := 2, embedded := Bool.false, tag := "", pkgPath := "", byteOffset := 16 }]) := ⟨Tryd.underlying62⟩
instance i62 : IC Tryd.prog 62 3 24 (.agg #[.int .i64 0, .bool false, .int .i64 0]) := ⟨i_of (by kernel_rfl)⟩
instance u97 : UC Tryd.prog 97 (Go.TypeDesc.interface #[("AssignableTo", 108), ("Comparable", 24), ("Elem", 105), ("Implements", 108), ("Kind", 107), ("Name", 127), ("PkgPath", 127), ("Size", 142), ("String", 127), ("internal/reflectlite.common", 133), ("internal/reflectlite.uncommon", 143)]) := ⟨Tryd.underlying97⟩
instance i97 : IC Tryd.prog 97 1 16 (.nilIface) := ⟨i_of (by kernel_rfl)⟩
instance u72 : UC Tryd.prog 72 (Go.TypeDesc.slice 46) := ⟨Tryd.underlying72⟩
instance i72 : IC Tryd.prog 72 1 24 (.slice none 0 0) := ⟨i_of (by kernel_rfl)⟩
instance u32 : UC Tryd.prog 32 (Go.TypeDesc.func #[22, 23] #[4] Bool.false) := ⟨Tryd.underlying32⟩
instance i32 : IC Tryd.prog 32 1 8 (.nilFunc) := ⟨i_of (by kernel_rfl)⟩
instance u8 : UC Tryd.prog 8 (Go.TypeDesc.struct #[{ name := "x", type := 2, offset := 0, embedded := Bool.false, tag := "", pkgPath := "runtime", byteOffset := 0 }, { name := "y", type := 3, offset := 1, embedded := Bool.false, tag := "", pkgPath := "runtime", byteOffset := 8 }, { name := "signed", type := 4, offset := 2, embedded := Bool.false, tag := "", pkgPath := "runtime", byteOffset := 16 }, { name := "code", type := 6, offset := 3, embedded := Bool.false, tag := "", pkgPath := "runtime", byteOffset := 17 }]) := ⟨Tryd.underlying8⟩
instance i8 : IC Tryd.prog 8 4 24 (.agg #[.int .i64 0, .int .i64 0, .bool false, .int .u8 0]) := ⟨i_of (by kernel_rfl)⟩
instance u101 : UC Tryd.prog 101 (Go.TypeDesc.int Go.IntKind.u64) := ⟨Tryd.underlying101⟩
instance i101 : IC Tryd.prog 101 1 8 (.int .u64 0) := ⟨i_of (by kernel_rfl)⟩
instance u40 : UC Tryd.prog 40 (Go.TypeDesc.struct #[{ name := "L", type := 37, offset := 0, embedded := Bool.false, tag := "", pkgPath := "", byteOffset := 0 }, { name := "N", type := 38, offset := 1, embedded := Bool.false, tag := "", pkgPath := "", byteOffset := 24 }]) := ⟨Tryd.underlying40⟩
instance i40 : IC Tryd.prog 40 2 48 (.agg #[.slice none 0 0, .slice none 0 0]) := ⟨i_of (by kernel_rfl)⟩
instance u116 : UC Tryd.prog 116 (Go.TypeDesc.interface #[("Unwrap", 117)]) := ⟨Tryd.underlying116⟩
instance i116 : IC Tryd.prog 116 1 16 (.nilIface) := ⟨i_of (by kernel_rfl)⟩
instance u110 : UC Tryd.prog 110 (Go.TypeDesc.struct #[{ name := "Type", type := 17, offset := 0, embedded := Bool.true, tag := "", pkgPath := "", byteOffset := 0 }]) := ⟨Tryd.underlying110⟩
instance i110 : IC Tryd.prog 110 1 8 (.agg #[.pointer none]) := ⟨i_of (by kernel_rfl)⟩
instance u58 : UC Tryd.prog 58 (Go.TypeDesc.slice 62) := ⟨Tryd.underlying58⟩
instance i58 : IC Tryd.prog 58 1 24 (.slice none 0 0) := ⟨i_of (by kernel_rfl)⟩
instance u111 : UC Tryd.prog 111 (Go.TypeDesc.struct #[{ name := "Type", type := 17, offset := 0, embedded := Bool.true, tag := "", pkgPath := "", byteOffset := 0 }]) := ⟨Tryd.underlying111⟩
instance i111 : IC Tryd.prog 111 1 8 (.agg #[.pointer none]) := ⟨i_of (by kernel_rfl)⟩
instance u119 : UC Tryd.prog 119 (Go.TypeDesc.slice 85) := ⟨Tryd.underlying119⟩
instance i119 : IC Tryd.prog 119 1 24 (.slice none 0 0) := ⟨i_of (by kernel_rfl)⟩
instance u7 : UC Tryd.prog 7 (Go.TypeDesc.struct #[{ name := "x", type := 2, offset := 0, embedded := Bool.false, tag := "", pkgPath := "runtime", byteOffset := 0 }, { name := "y", type := 3, offset := 1, embedded := Bool.false, tag := "", pkgPath := "runtime", byteOffset := 8 }, { name := "signed", type := 4, offset := 2, embedded := Bool.false, tag := "", pkgPath := "runtime", byteOffset := 16 }, { name := "code", type := 6, offset := 3, embedded := Bool.false, tag := "", pkgPath := "runtime", byteOffset := 17 }]) := ⟨Tryd.underlying7⟩
instance i7 : IC Tryd.prog 7 4 24 (.agg #[.int .i64 0, .int .i64 0, .bool false, .int .u8 0]) := ⟨i_of (by kernel_rfl)⟩
instance u11 : UC Tryd.prog 11 (Go.TypeDesc.string) := ⟨Tryd.underlying11⟩
instance i11 : IC Tryd.prog 11 1 16 (.string ByteArray.empty) := ⟨i_of (by kernel_rfl)⟩
instance u98 : UC Tryd.prog 98 (Go.TypeDesc.func #[20] #[97] Bool.false) := ⟨Tryd.underlying98⟩
instance i98 : IC Tryd.prog 98 1 8 (.nilFunc) := ⟨i_of (by kernel_rfl)⟩
instance u87 : UC Tryd.prog 87 (Go.TypeDesc.struct #[{ name := "code", type := 50, offset := 0, embedded := Bool.false, tag := "", pkgPath := "annex/bits", byteOffset := 0 }]) := ⟨Tryd.underlying87⟩
instance i87 : IC Tryd.prog 87 1 8 (.agg #[.int .i64 0]) := ⟨i_of (by kernel_rfl)⟩
instance u115 : UC Tryd.prog 115 (Go.TypeDesc.func #[85] #[4] Bool.false) := ⟨Tryd.underlying115⟩
instance i115 : IC Tryd.prog 115 1 8 (.nilFunc) := ⟨i_of (by kernel_rfl)⟩
instance u105 : UC Tryd.prog 105 (Go.TypeDesc.func #[] #[97] Bool.false) := ⟨Tryd.underlying105⟩
instance i105 : IC Tryd.prog 105 1 8 (.nilFunc) := ⟨i_of (by kernel_rfl)⟩
instance u99 : UC Tryd.prog 99 (Go.TypeDesc.func #[85, 85, 4] #[4] Bool.false) := ⟨Tryd.underlying99⟩
instance i99 : IC Tryd.prog 99 1 8 (.nilFunc) := ⟨i_of (by kernel_rfl)⟩
instance u12 : UC Tryd.prog 12 (Go.TypeDesc.int Go.IntKind.u64) := ⟨Tryd.underlying12⟩
instance i12 : IC Tryd.prog 12 1 8 (.int .u64 0) := ⟨i_of (by kernel_rfl)⟩
instance u106 : UC Tryd.prog 106 (Go.TypeDesc.int Go.IntKind.u8) := ⟨Tryd.underlying106⟩
instance i106 : IC Tryd.prog 106 1 1 (.int .u8 0) := ⟨i_of (by kernel_rfl)⟩
instance u109 : UC Tryd.prog 109 (Go.TypeDesc.func #[85, 20, 103, 97] #[4] Bool.false) := ⟨Tryd.underlying109⟩
instance i109 : IC Tryd.prog 109 1 8 (.nilFunc) := ⟨i_of (by kernel_rfl)⟩
instance u16 : UC Tryd.prog 16 (Go.TypeDesc.pointer 132) := ⟨Tryd.underlying16⟩
instance i16 : IC Tryd.prog 16 1 8 (.pointer none) := ⟨i_of (by kernel_rfl)⟩
instance u13 : UC Tryd.prog 13 (Go.TypeDesc.struct #[{ name := "msg", type := 9, offset := 0, embedded := Bool.false, tag := "", pkgPath := "runtime", byteOffset := 0 }, { name := "addr", type := 12, offset := 1, embedded := Bool.false, tag := "", pkgPath := "runtime", byteOffset := 16 }]) := ⟨Tryd.underlying13⟩
instance i13 : IC Tryd.prog 13 2 24 (.agg #[.string ByteArray.empty, .int .u64 0]) := ⟨i_of (by kernel_rfl)⟩
instance u108 : UC Tryd.prog 108 (Go.TypeDesc.func #[97] #[4] Bool.false) := ⟨Tryd.underlying108⟩
instance i108 : IC Tryd.prog 108 1 8 (.nilFunc) := ⟨i_of (by kernel_rfl)⟩
instance u102 : UC Tryd.prog 102 (Go.TypeDesc.struct #[{ name := "typ_", type := 17, offset := 0, embedded := Bool.false, tag := "", pkgPath := "internal/reflectlite", byteOffset := 0 }, { name := "ptr", type := 100, offset := 1, embedded := Bool.false, tag := "", pkgPath := "internal/reflectlite", byteOffset := 8 }, { name := "flag", type := 101, offset := 2, embedded := Bool.true, tag := "", pkgPath := "internal/reflectlite", byteOffset := 16 }]) := ⟨Tryd.underlying102⟩
instance i102 : IC Tryd.prog 102 3 24 (.agg #[.pointer none, .pointer none, .int .u64 0]) := ⟨i_of (by kernel_rfl)⟩
instance u90 : UC Tryd.prog 90 (Go.TypeDesc.pointer 87) := ⟨Tryd.underlying90⟩
instance i90 : IC Tryd.prog 90 1 8 (.pointer none) := ⟨i_of (by kernel_rfl)⟩
instance u92 : UC Tryd.prog 92 (Go.TypeDesc.func #[3, 3] #[3] Bool.false) := ⟨Tryd.underlying92⟩
instance i92 : IC Tryd.prog 92 1 8 (.nilFunc) := ⟨i_of (by kernel_rfl)⟩
instance u91 : UC Tryd.prog 91 (Go.TypeDesc.int Go.IntKind.u64) := ⟨Tryd.underlying91⟩
instance i91 : IC Tryd.prog 91 1 8 (.int .u64 0) := ⟨i_of (by kernel_rfl)⟩
instance u14 : UC Tryd.prog 14 (Go.TypeDesc.struct #[{ name := "msg", type := 9, offset := 0, embedded := Bool.false, tag := "", pkgPath := "runtime", byteOffset := 0 }, { name := "addr", type := 12, offset := 1, embedded := Bool.false, tag := "", pkgPath := "runtime", byteOffset := 16 }]) := ⟨Tryd.underlying14⟩
instance i14 : IC Tryd.prog 14 2 24 (.agg #[.string ByteArray.empty, .int .u64 0]) := ⟨i_of (by kernel_rfl)⟩
instance u15 : UC Tryd.prog 15 (Go.TypeDesc.pointer 129) := ⟨Tryd.underlying15⟩
instance i15 : IC Tryd.prog 15 1 8 (.pointer none) := ⟨i_of (by kernel_rfl)⟩
instance u117 : UC Tryd.prog 117 (Go.TypeDesc.func #[] #[85] Bool.false) := ⟨Tryd.underlying117⟩
instance i117 : IC Tryd.prog 117 1 8 (.nilFunc) := ⟨i_of (by kernel_rfl)⟩
instance u112 : UC Tryd.prog 112 (Go.TypeDesc.pointer 145) := ⟨Tryd.underlying112⟩
instance i112 : IC Tryd.prog 112 1 8 (.pointer none) := ⟨i_of (by kernel_rfl)⟩
instance u118 : UC Tryd.prog 118 (Go.TypeDesc.interface #[("Unwrap", 120)]) := ⟨Tryd.underlying118⟩
instance i118 : IC Tryd.prog 118 1 16 (.nilIface) := ⟨i_of (by kernel_rfl)⟩
instance u147 : UC Tryd.prog 147 (Go.TypeDesc.struct #[{ name := "s", type := 9, offset := 0, embedded := Bool.false, tag := "", pkgPath := "errors", byteOffset := 0 }]) := ⟨Tryd.underlying147⟩
instance i147 : IC Tryd.prog 147 1 16 (.agg #[.string ByteArray.empty]) := ⟨i_of (by kernel_rfl)⟩
instance u6 : UC Tryd.prog 6 (Go.TypeDesc.int Go.IntKind.u8) := ⟨Tryd.underlying6⟩
instance i6 : IC Tryd.prog 6 1 1 (.int .u8 0) := ⟨i_of (by kernel_rfl)⟩
instance u29 : UC Tryd.prog 29 (Go.TypeDesc.func #[22, 28] #[22] Bool.false) := ⟨Tryd.underlying29⟩
instance i29 : IC Tryd.prog 29 1 8 (.nilFunc) := ⟨i_of (by kernel_rfl)⟩
instance u45 : UC Tryd.prog 45 (Go.TypeDesc.func #[23] #[22, 38] Bool.false) := ⟨Tryd.underlying45⟩
instance i45 : IC Tryd.prog 45 1 8 (.nilFunc) := ⟨i_of (by kernel_rfl)⟩
instance u42 : UC Tryd.prog 42 (Go.TypeDesc.func #[23] #[4] Bool.false) := ⟨Tryd.underlying42⟩
instance i42 : IC Tryd.prog 42 1 8 (.nilFunc) := ⟨i_of (by kernel_rfl)⟩
instance u113 : UC Tryd.prog 113 (Go.TypeDesc.interface #[("Is", 115)]) := ⟨Tryd.underlying113⟩
instance i113 : IC Tryd.prog 113 1 16 (.nilIface) := ⟨i_of (by kernel_rfl)⟩
instance u123 : UC Tryd.prog 123 (Go.TypeDesc.interface #[("As", 125)]) := ⟨Tryd.underlying123⟩
instance i123 : IC Tryd.prog 123 1 16 (.nilIface) := ⟨i_of (by kernel_rfl)⟩
instance u126 : UC Tryd.prog 126 (Go.TypeDesc.pointer 147) := ⟨Tryd.underlying126⟩
instance i126 : IC Tryd.prog 126 1 8 (.pointer none) := ⟨i_of (by kernel_rfl)⟩
instance u17 : UC Tryd.prog 17 (Go.TypeDesc.pointer 141) := ⟨Tryd.underlying17⟩
instance i17 : IC Tryd.prog 17 1 8 (.pointer none) := ⟨i_of (by kernel_rfl)⟩
instance u100 : UC Tryd.prog 100 (Go.TypeDesc.unsafePointer) := ⟨Tryd.underlying100⟩
instance i100 : IC Tryd.prog 100 1 8 (.pointer none) := ⟨i_of (by kernel_rfl)⟩
instance f28_3 : FC Tryd.prog 28 3 3 22 := ⟨⟨_, _, Tryd.underlying28, rfl, rfl, rfl, _, IC.size, (by decide)⟩⟩
instance f79_1 : FC Tryd.prog 79 1 1 3 := ⟨⟨_, _, Tryd.underlying79, rfl, rfl, rfl, _, IC.size, (by decide)⟩⟩
instance f28_1 : FC Tryd.prog 28 1 1 3 := ⟨⟨_, _, Tryd.underlying28, rfl, rfl, rfl, _, IC.size, (by decide)⟩⟩
instance f79_2 : FC Tryd.prog 79 2 2 3 := ⟨⟨_, _, Tryd.underlying79, rfl, rfl, rfl, _, IC.size, (by decide)⟩⟩
instance f62_2 : FC Tryd.prog 62 2 2 3 := ⟨⟨_, _, Tryd.underlying62, rfl, rfl, rfl, _, IC.size, (by decide)⟩⟩
instance f28_0 : FC Tryd.prog 28 0 0 3 := ⟨⟨_, _, Tryd.underlying28, rfl, rfl, rfl, _, IC.size, (by decide)⟩⟩
instance f40_0 : FC Tryd.prog 40 0 0 37 := ⟨⟨_, _, Tryd.underlying40, rfl, rfl, rfl, _, IC.size, (by decide)⟩⟩
instance f75_3 : FC Tryd.prog 75 3 3 50 := ⟨⟨_, _, Tryd.underlying75, rfl, rfl, rfl, _, IC.size, (by decide)⟩⟩
instance f75_2 : FC Tryd.prog 75 2 2 3 := ⟨⟨_, _, Tryd.underlying75, rfl, rfl, rfl, _, IC.size, (by decide)⟩⟩
instance f79_0 : FC Tryd.prog 79 0 0 22 := ⟨⟨_, _, Tryd.underlying79, rfl, rfl, rfl, _, IC.size, (by decide)⟩⟩
instance f28_2 : FC Tryd.prog 28 2 2 26 := ⟨⟨_, _, Tryd.underlying28, rfl, rfl, rfl, _, IC.size, (by decide)⟩⟩
instance f75_1 : FC Tryd.prog 75 1 1 3 := ⟨⟨_, _, Tryd.underlying75, rfl, rfl, rfl, _, IC.size, (by decide)⟩⟩
instance f40_1 : FC Tryd.prog 40 1 1 38 := ⟨⟨_, _, Tryd.underlying40, rfl, rfl, rfl, _, IC.size, (by decide)⟩⟩
instance f75_0 : FC Tryd.prog 75 0 0 22 := ⟨⟨_, _, Tryd.underlying75, rfl, rfl, rfl, _, IC.size, (by decide)⟩⟩
instance f62_1 : FC Tryd.prog 62 1 1 4 := ⟨⟨_, _, Tryd.underlying62, rfl, rfl, rfl, _, IC.size, (by decide)⟩⟩
instance f62_0 : FC Tryd.prog 62 0 0 3 := ⟨⟨_, _, Tryd.underlying62, rfl, rfl, rfl, _, IC.size, (by decide)⟩⟩
instance f87_0 : FC Tryd.prog 87 0 0 50 := ⟨⟨_, _, Tryd.underlying87, rfl, rfl, rfl, _, IC.size, (by decide)⟩⟩
instance b28 : BC Tryd.prog 28 [(0, 1), (1, 1), (2, 1), (3, 1)] [.int .i64 0, .int .i64 0, .int .u64 0, .slice none 0 0] := ⟨⟨_, _, Tryd.underlying28, IC.zero, rfl, rfl, fun i f h => by
    match i, h with
    | 0, h => cases h; exact ⟨_, _, rfl, rfl, IC.size⟩
    | 1, h => cases h; exact ⟨_, _, rfl, rfl, IC.size⟩
    | 2, h => cases h; exact ⟨_, _, rfl, rfl, IC.size⟩
    | 3, h => cases h; exact ⟨_, _, rfl, rfl, IC.size⟩
    | _ + 4, h => cases h⟩⟩
instance b79 : BC Tryd.prog 79 [(0, 1), (1, 1), (2, 1)] [.slice none 0 0, .int .i64 0, .int .i64 0] := ⟨⟨_, _, Tryd.underlying79, IC.zero, rfl, rfl, fun i f h => by
    match i, h with
    | 0, h => cases h; exact ⟨_, _, rfl, rfl, IC.size⟩
    | 1, h => cases h; exact ⟨_, _, rfl, rfl, IC.size⟩
    | 2, h => cases h; exact ⟨_, _, rfl, rfl, IC.size⟩
    | _ + 3, h => cases h⟩⟩
instance b103 : BC Tryd.prog 103 [(0, 1), (1, 1), (2, 1)] [.pointer none, .pointer none, .int .u64 0] := ⟨⟨_, _, Tryd.underlying103, IC.zero, rfl, rfl, fun i f h => by
    match i, h with
    | 0, h => cases h; exact ⟨_, _, rfl, rfl, IC.size⟩
    | 1, h => cases h; exact ⟨_, _, rfl, rfl, IC.size⟩
    | 2, h => cases h; exact ⟨_, _, rfl, rfl, IC.size⟩
    | _ + 3, h => cases h⟩⟩
instance b75 : BC Tryd.prog 75 [(0, 1), (1, 1), (2, 1), (3, 1)] [.slice none 0 0, .int .i64 0, .int .i64 0, .int .i64 0] := ⟨⟨_, _, Tryd.underlying75, IC.zero, rfl, rfl, fun i f h => by
    match i, h with
    | 0, h => cases h; exact ⟨_, _, rfl, rfl, IC.size⟩
    | 1, h => cases h; exact ⟨_, _, rfl, rfl, IC.size⟩
    | 2, h => cases h; exact ⟨_, _, rfl, rfl, IC.size⟩
    | 3, h => cases h; exact ⟨_, _, rfl, rfl, IC.size⟩
    | _ + 4, h => cases h⟩⟩
instance b62 : BC Tryd.prog 62 [(0, 1), (1, 1), (2, 1)] [.int .i64 0, .bool false, .int .i64 0] := ⟨⟨_, _, Tryd.underlying62, IC.zero, rfl, rfl, fun i f h => by
    match i, h with
    | 0, h => cases h; exact ⟨_, _, rfl, rfl, IC.size⟩
    | 1, h => cases h; exact ⟨_, _, rfl, rfl, IC.size⟩
    | 2, h => cases h; exact ⟨_, _, rfl, rfl, IC.size⟩
    | _ + 3, h => cases h⟩⟩
instance b8 : BC Tryd.prog 8 [(0, 1), (1, 1), (2, 1), (3, 1)] [.int .i64 0, .int .i64 0, .bool false, .int .u8 0] := ⟨⟨_, _, Tryd.underlying8, IC.zero, rfl, rfl, fun i f h => by
    match i, h with
    | 0, h => cases h; exact ⟨_, _, rfl, rfl, IC.size⟩
    | 1, h => cases h; exact ⟨_, _, rfl, rfl, IC.size⟩
    | 2, h => cases h; exact ⟨_, _, rfl, rfl, IC.size⟩
    | 3, h => cases h; exact ⟨_, _, rfl, rfl, IC.size⟩
    | _ + 4, h => cases h⟩⟩
instance b40 : BC Tryd.prog 40 [(0, 1), (1, 1)] [.slice none 0 0, .slice none 0 0] := ⟨⟨_, _, Tryd.underlying40, IC.zero, rfl, rfl, fun i f h => by
    match i, h with
    | 0, h => cases h; exact ⟨_, _, rfl, rfl, IC.size⟩
    | 1, h => cases h; exact ⟨_, _, rfl, rfl, IC.size⟩
    | _ + 2, h => cases h⟩⟩
instance b110 : BC Tryd.prog 110 [(0, 1)] [.pointer none] := ⟨⟨_, _, Tryd.underlying110, IC.zero, rfl, rfl, fun i f h => by
    match i, h with
    | 0, h => cases h; exact ⟨_, _, rfl, rfl, IC.size⟩
    | _ + 1, h => cases h⟩⟩
instance b111 : BC Tryd.prog 111 [(0, 1)] [.pointer none] := ⟨⟨_, _, Tryd.underlying111, IC.zero, rfl, rfl, fun i f h => by
    match i, h with
    | 0, h => cases h; exact ⟨_, _, rfl, rfl, IC.size⟩
    | _ + 1, h => cases h⟩⟩
instance b7 : BC Tryd.prog 7 [(0, 1), (1, 1), (2, 1), (3, 1)] [.int .i64 0, .int .i64 0, .bool false, .int .u8 0] := ⟨⟨_, _, Tryd.underlying7, IC.zero, rfl, rfl, fun i f h => by
    match i, h with
    | 0, h => cases h; exact ⟨_, _, rfl, rfl, IC.size⟩
    | 1, h => cases h; exact ⟨_, _, rfl, rfl, IC.size⟩
    | 2, h => cases h; exact ⟨_, _, rfl, rfl, IC.size⟩
    | 3, h => cases h; exact ⟨_, _, rfl, rfl, IC.size⟩
    | _ + 4, h => cases h⟩⟩
instance b87 : BC Tryd.prog 87 [(0, 1)] [.int .i64 0] := ⟨⟨_, _, Tryd.underlying87, IC.zero, rfl, rfl, fun i f h => by
    match i, h with
    | 0, h => cases h; exact ⟨_, _, rfl, rfl, IC.size⟩
    | _ + 1, h => cases h⟩⟩
instance b13 : BC Tryd.prog 13 [(0, 1), (1, 1)] [.string ByteArray.empty, .int .u64 0] := ⟨⟨_, _, Tryd.underlying13, IC.zero, rfl, rfl, fun i f h => by
    match i, h with
    | 0, h => cases h; exact ⟨_, _, rfl, rfl, IC.size⟩
    | 1, h => cases h; exact ⟨_, _, rfl, rfl, IC.size⟩
    | _ + 2, h => cases h⟩⟩
instance b102 : BC Tryd.prog 102 [(0, 1), (1, 1), (2, 1)] [.pointer none, .pointer none, .int .u64 0] := ⟨⟨_, _, Tryd.underlying102, IC.zero, rfl, rfl, fun i f h => by
    match i, h with
    | 0, h => cases h; exact ⟨_, _, rfl, rfl, IC.size⟩
    | 1, h => cases h; exact ⟨_, _, rfl, rfl, IC.size⟩
    | 2, h => cases h; exact ⟨_, _, rfl, rfl, IC.size⟩
    | _ + 3, h => cases h⟩⟩
instance b14 : BC Tryd.prog 14 [(0, 1), (1, 1)] [.string ByteArray.empty, .int .u64 0] := ⟨⟨_, _, Tryd.underlying14, IC.zero, rfl, rfl, fun i f h => by
    match i, h with
    | 0, h => cases h; exact ⟨_, _, rfl, rfl, IC.size⟩
    | 1, h => cases h; exact ⟨_, _, rfl, rfl, IC.size⟩
    | _ + 2, h => cases h⟩⟩
instance b147 : BC Tryd.prog 147 [(0, 1)] [.string ByteArray.empty] := ⟨⟨_, _, Tryd.underlying147, IC.zero, rfl, rfl, fun i f h => by
    match i, h with
    | 0, h => cases h; exact ⟨_, _, rfl, rfl, IC.size⟩
    | _ + 1, h => cases h⟩⟩
instance e3 : EC Tryd.prog 3 := ⟨Enters.mk Tryd.func3 (by kernel_rfl) (by kernel_rfl)⟩
instance e4 : EC Tryd.prog 4 := ⟨Enters.mk Tryd.func4 (by kernel_rfl) (by kernel_rfl)⟩
instance e5 : EC Tryd.prog 5 := ⟨Enters.mk Tryd.func5 (by kernel_rfl) (by kernel_rfl)⟩
instance e6 : EC Tryd.prog 6 := ⟨Enters.mk Tryd.func6 (by kernel_rfl) (by kernel_rfl)⟩
instance e7 : EC Tryd.prog 7 := ⟨Enters.mk Tryd.func7 (by kernel_rfl) (by kernel_rfl)⟩
instance e8 : EC Tryd.prog 8 := ⟨Enters.mk Tryd.func8 (by kernel_rfl) (by kernel_rfl)⟩
instance e9 : EC Tryd.prog 9 := ⟨Enters.mk Tryd.func9 (by kernel_rfl) (by kernel_rfl)⟩
instance e10 : EC Tryd.prog 10 := ⟨Enters.mk Tryd.func10 (by kernel_rfl) (by kernel_rfl)⟩
instance e11 : EC Tryd.prog 11 := ⟨Enters.mk Tryd.func11 (by kernel_rfl) (by kernel_rfl)⟩
instance e12 : EC Tryd.prog 12 := ⟨Enters.mk Tryd.func12 (by kernel_rfl) (by kernel_rfl)⟩
instance e13 : EC Tryd.prog 13 := ⟨Enters.mk Tryd.func13 (by kernel_rfl) (by kernel_rfl)⟩
instance e14 : EC Tryd.prog 14 := ⟨Enters.mk Tryd.func14 (by kernel_rfl) (by kernel_rfl)⟩
instance e15 : EC Tryd.prog 15 := ⟨Enters.mk Tryd.func15 (by kernel_rfl) (by kernel_rfl)⟩
instance e16 : EC Tryd.prog 16 := ⟨Enters.mk Tryd.func16 (by kernel_rfl) (by kernel_rfl)⟩
instance e17 : EC Tryd.prog 17 := ⟨Enters.mk Tryd.func17 (by kernel_rfl) (by kernel_rfl)⟩
instance e18 : EC Tryd.prog 18 := ⟨Enters.mk Tryd.func18 (by kernel_rfl) (by kernel_rfl)⟩
instance e19 : EC Tryd.prog 19 := ⟨Enters.mk Tryd.func19 (by kernel_rfl) (by kernel_rfl)⟩
instance e20 : EC Tryd.prog 20 := ⟨Enters.mk Tryd.func20 (by kernel_rfl) (by kernel_rfl)⟩
instance e21 : EC Tryd.prog 21 := ⟨Enters.mk Tryd.func21 (by kernel_rfl) (by kernel_rfl)⟩
instance e22 : EC Tryd.prog 22 := ⟨Enters.mk Tryd.func22 (by kernel_rfl) (by kernel_rfl)⟩
instance e23 : EC Tryd.prog 23 := ⟨Enters.mk Tryd.func23 (by kernel_rfl) (by kernel_rfl)⟩
instance e24 : EC Tryd.prog 24 := ⟨Enters.mk Tryd.func24 (by kernel_rfl) (by kernel_rfl)⟩
instance e25 : EC Tryd.prog 25 := ⟨Enters.mk Tryd.func25 (by kernel_rfl) (by kernel_rfl)⟩
instance e26 : EC Tryd.prog 26 := ⟨Enters.mk Tryd.func26 (by kernel_rfl) (by kernel_rfl)⟩
instance e27 : EC Tryd.prog 27 := ⟨Enters.mk Tryd.func27 (by kernel_rfl) (by kernel_rfl)⟩
instance e28 : EC Tryd.prog 28 := ⟨Enters.mk Tryd.func28 (by kernel_rfl) (by kernel_rfl)⟩
instance e29 : EC Tryd.prog 29 := ⟨Enters.mk Tryd.func29 (by kernel_rfl) (by kernel_rfl)⟩
instance e30 : EC Tryd.prog 30 := ⟨Enters.mk Tryd.func30 (by kernel_rfl) (by kernel_rfl)⟩
instance e31 : EC Tryd.prog 31 := ⟨Enters.mk Tryd.func31 (by kernel_rfl) (by kernel_rfl)⟩
instance e32 : EC Tryd.prog 32 := ⟨Enters.mk Tryd.func32 (by kernel_rfl) (by kernel_rfl)⟩
instance e33 : EC Tryd.prog 33 := ⟨Enters.mk Tryd.func33 (by kernel_rfl) (by kernel_rfl)⟩
instance e34 : EC Tryd.prog 34 := ⟨Enters.mk Tryd.func34 (by kernel_rfl) (by kernel_rfl)⟩
instance e35 : EC Tryd.prog 35 := ⟨Enters.mk Tryd.func35 (by kernel_rfl) (by kernel_rfl)⟩
instance e36 : EC Tryd.prog 36 := ⟨Enters.mk Tryd.func36 (by kernel_rfl) (by kernel_rfl)⟩
instance e37 : EC Tryd.prog 37 := ⟨Enters.mk Tryd.func37 (by kernel_rfl) (by kernel_rfl)⟩
instance e38 : EC Tryd.prog 38 := ⟨Enters.mk Tryd.func38 (by kernel_rfl) (by kernel_rfl)⟩
instance e39 : EC Tryd.prog 39 := ⟨Enters.mk Tryd.func39 (by kernel_rfl) (by kernel_rfl)⟩
instance e40 : EC Tryd.prog 40 := ⟨Enters.mk Tryd.func40 (by kernel_rfl) (by kernel_rfl)⟩
instance e41 : EC Tryd.prog 41 := ⟨Enters.mk Tryd.func41 (by kernel_rfl) (by kernel_rfl)⟩
instance e42 : EC Tryd.prog 42 := ⟨Enters.mk Tryd.func42 (by kernel_rfl) (by kernel_rfl)⟩
instance e43 : EC Tryd.prog 43 := ⟨Enters.mk Tryd.func43 (by kernel_rfl) (by kernel_rfl)⟩
instance e44 : EC Tryd.prog 44 := ⟨Enters.mk Tryd.func44 (by kernel_rfl) (by kernel_rfl)⟩
instance e45 : EC Tryd.prog 45 := ⟨Enters.mk Tryd.func45 (by kernel_rfl) (by kernel_rfl)⟩
instance e46 : EC Tryd.prog 46 := ⟨Enters.mk Tryd.func46 (by kernel_rfl) (by kernel_rfl)⟩
instance e47 : EC Tryd.prog 47 := ⟨Enters.mk Tryd.func47 (by kernel_rfl) (by kernel_rfl)⟩
instance e48 : EC Tryd.prog 48 := ⟨Enters.mk Tryd.func48 (by kernel_rfl) (by kernel_rfl)⟩
instance e49 : EC Tryd.prog 49 := ⟨Enters.mk Tryd.func49 (by kernel_rfl) (by kernel_rfl)⟩
instance e50 : EC Tryd.prog 50 := ⟨Enters.mk Tryd.func50 (by kernel_rfl) (by kernel_rfl)⟩
instance e51 : EC Tryd.prog 51 := ⟨Enters.mk Tryd.func51 (by kernel_rfl) (by kernel_rfl)⟩
instance e52 : EC Tryd.prog 52 := ⟨Enters.mk Tryd.func52 (by kernel_rfl) (by kernel_rfl)⟩
instance e53 : EC Tryd.prog 53 := ⟨Enters.mk Tryd.func53 (by kernel_rfl) (by kernel_rfl)⟩
instance e54 : EC Tryd.prog 54 := ⟨Enters.mk Tryd.func54 (by kernel_rfl) (by kernel_rfl)⟩
instance e55 : EC Tryd.prog 55 := ⟨Enters.mk Tryd.func55 (by kernel_rfl) (by kernel_rfl)⟩
instance e56 : EC Tryd.prog 56 := ⟨Enters.mk Tryd.func56 (by kernel_rfl) (by kernel_rfl)⟩
instance e57 : EC Tryd.prog 57 := ⟨Enters.mk Tryd.func57 (by kernel_rfl) (by kernel_rfl)⟩
instance e58 : EC Tryd.prog 58 := ⟨Enters.mk Tryd.func58 (by kernel_rfl) (by kernel_rfl)⟩
instance e59 : EC Tryd.prog 59 := ⟨Enters.mk Tryd.func59 (by kernel_rfl) (by kernel_rfl)⟩
instance e60 : EC Tryd.prog 60 := ⟨Enters.mk Tryd.func60 (by kernel_rfl) (by kernel_rfl)⟩
instance e61 : EC Tryd.prog 61 := ⟨Enters.mk Tryd.func61 (by kernel_rfl) (by kernel_rfl)⟩
instance e62 : EC Tryd.prog 62 := ⟨Enters.mk Tryd.func62 (by kernel_rfl) (by kernel_rfl)⟩
instance e63 : EC Tryd.prog 63 := ⟨Enters.mk Tryd.func63 (by kernel_rfl) (by kernel_rfl)⟩
instance e64 : EC Tryd.prog 64 := ⟨Enters.mk Tryd.func64 (by kernel_rfl) (by kernel_rfl)⟩
instance e65 : EC Tryd.prog 65 := ⟨Enters.mk Tryd.func65 (by kernel_rfl) (by kernel_rfl)⟩
instance e66 : EC Tryd.prog 66 := ⟨Enters.mk Tryd.func66 (by kernel_rfl) (by kernel_rfl)⟩
instance e67 : EC Tryd.prog 67 := ⟨Enters.mk Tryd.func67 (by kernel_rfl) (by kernel_rfl)⟩
instance e68 : EC Tryd.prog 68 := ⟨Enters.mk Tryd.func68 (by kernel_rfl) (by kernel_rfl)⟩
instance e69 : EC Tryd.prog 69 := ⟨Enters.mk Tryd.func69 (by kernel_rfl) (by kernel_rfl)⟩
instance e70 : EC Tryd.prog 70 := ⟨Enters.mk Tryd.func70 (by kernel_rfl) (by kernel_rfl)⟩
instance e71 : EC Tryd.prog 71 := ⟨Enters.mk Tryd.func71 (by kernel_rfl) (by kernel_rfl)⟩
instance e73 : EC Tryd.prog 73 := ⟨Enters.mk Tryd.func73 (by kernel_rfl) (by kernel_rfl)⟩
instance e77 : EC Tryd.prog 77 := ⟨Enters.mk Tryd.func77 (by kernel_rfl) (by kernel_rfl)⟩
instance e99 : EC Tryd.prog 99 := ⟨Enters.mk Tryd.func99 (by kernel_rfl) (by kernel_rfl)⟩
instance e116 : EC Tryd.prog 116 := ⟨Enters.mk Tryd.func116 (by kernel_rfl) (by kernel_rfl)⟩
end Go.Proofs.YtjnnlfeohbidhaaDoor
