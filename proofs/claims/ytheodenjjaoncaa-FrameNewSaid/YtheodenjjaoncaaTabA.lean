/- Contracts of functions that the laws reach, on abstract values, and what they need: no conditions but those that each theorem states. -/
import Derived.Test.YtheodenjjaoncaaProg
import Derived.KernelRfl
import Derived.Test.YtheodenjjaoncaaSlM
set_option linter.unusedVariables false
set_option linter.unusedSimpArgs false
set_option linter.defProp false
namespace Go.Proofs
open Go
theorem tab.u2 : Try.prog.underlying 2 = some (TypeDesc.int IntKind.i64) := by kernel_rfl
theorem tab.s2 : SL.tsz Try.prog 2 = some 1 := by kernel_rfl
theorem tab.z2 : SL.tzero Try.prog 2 = some [Value.int IntKind.i64 (0 : Int)] := by kernel_rfl
theorem tab.a2 : SL.tagg Try.prog 2 = some false := by kernel_rfl
theorem tab.u3 : Try.prog.underlying 3 = some (TypeDesc.int IntKind.i64) := by kernel_rfl
theorem tab.s3 : SL.tsz Try.prog 3 = some 1 := by kernel_rfl
theorem tab.b3 : SL.tby Try.prog 3 = some 8 := by kernel_rfl
theorem tab.z3 : SL.tzero Try.prog 3 = some [Value.int IntKind.i64 (0 : Int)] := by kernel_rfl
theorem tab.a3 : SL.tagg Try.prog 3 = some false := by kernel_rfl
theorem tab.u4 : Try.prog.underlying 4 = some TypeDesc.bool := by kernel_rfl
theorem tab.s4 : SL.tsz Try.prog 4 = some 1 := by kernel_rfl
theorem tab.z4 : SL.tzero Try.prog 4 = some [Value.bool false] := by kernel_rfl
theorem tab.a4 : SL.tagg Try.prog 4 = some false := by kernel_rfl
theorem tab.u5 : Try.prog.underlying 5 = some (TypeDesc.int IntKind.u8) := by kernel_rfl
theorem tab.s5 : SL.tsz Try.prog 5 = some 1 := by kernel_rfl
theorem tab.b5 : SL.tby Try.prog 5 = some 1 := by kernel_rfl
theorem tab.z5 : SL.tzero Try.prog 5 = some [Value.int IntKind.u8 (0 : Int)] := by kernel_rfl
theorem tab.a5 : SL.tagg Try.prog 5 = some false := by kernel_rfl
theorem tab.u9 : Try.prog.underlying 9 = some TypeDesc.string := by kernel_rfl
theorem tab.u20 : Try.prog.underlying 20 = some (TypeDesc.interface #[]) := by kernel_rfl
theorem tab.u23 : Try.prog.underlying 23 = some (TypeDesc.array 16 5) := by kernel_rfl
theorem tab.s23 : SL.tsz Try.prog 23 = some 16 := by kernel_rfl
theorem tab.b23 : SL.tby Try.prog 23 = some 16 := by kernel_rfl
theorem tab.z23 : SL.tzero Try.prog 23 = some [Value.int IntKind.u8 (0 : Int), Value.int IntKind.u8 (0 : Int), Value.int IntKind.u8 (0 : Int), Value.int IntKind.u8 (0 : Int), Value.int IntKind.u8 (0 : Int), Value.int IntKind.u8 (0 : Int), Value.int IntKind.u8 (0 : Int), Value.int IntKind.u8 (0 : Int), Value.int IntKind.u8 (0 : Int), Value.int IntKind.u8 (0 : Int), Value.int IntKind.u8 (0 : Int), Value.int IntKind.u8 (0 : Int), Value.int IntKind.u8 (0 : Int), Value.int IntKind.u8 (0 : Int), Value.int IntKind.u8 (0 : Int), Value.int IntKind.u8 (0 : Int)] := by kernel_rfl
theorem tab.a23 : SL.tagg Try.prog 23 = some true := by kernel_rfl
theorem tab.u35 : Try.prog.underlying 35 = some (TypeDesc.slice 5) := by kernel_rfl
theorem tab.s35 : SL.tsz Try.prog 35 = some 1 := by kernel_rfl
theorem tab.z35 : SL.tzero Try.prog 35 = some [Value.slice none 0 0] := by kernel_rfl
theorem tab.a35 : SL.tagg Try.prog 35 = some false := by kernel_rfl
theorem tab.u36 : Try.prog.underlying 36 = some (TypeDesc.int IntKind.u64) := by kernel_rfl
theorem tab.s36 : SL.tsz Try.prog 36 = some 1 := by kernel_rfl
theorem tab.a36 : SL.tagg Try.prog 36 = some false := by kernel_rfl
theorem tab.u37 : Try.prog.underlying 37 = some (TypeDesc.int IntKind.i64) := by kernel_rfl
theorem tab.s37 : SL.tsz Try.prog 37 = some 1 := by kernel_rfl
theorem tab.z37 : SL.tzero Try.prog 37 = some [Value.int IntKind.i64 (0 : Int)] := by kernel_rfl
theorem tab.a37 : SL.tagg Try.prog 37 = some false := by kernel_rfl
theorem tab.u43 : Try.prog.underlying 43 = some (TypeDesc.slice 36) := by kernel_rfl
theorem tab.u44 : Try.prog.underlying 44 = some (TypeDesc.slice 35) := by kernel_rfl
theorem tab.u69 : Try.prog.underlying 69 = some (TypeDesc.slice 2) := by kernel_rfl
theorem tab.u79 : Try.prog.underlying 79 = some (TypeDesc.slice 23) := by kernel_rfl
theorem tab.s79 : SL.tsz Try.prog 79 = some 1 := by kernel_rfl
theorem tab.a79 : SL.tagg Try.prog 79 = some false := by kernel_rfl
theorem tab.u135 : Try.prog.underlying 135 = some (TypeDesc.struct #[{ name := "Inc", type := 2, offset := 0, embedded := false, tag := "", pkgPath := "", byteOffset := 0 }, { name := "N", type := 2, offset := 1, embedded := false, tag := "", pkgPath := "", byteOffset := 8 }]) := by kernel_rfl
theorem tab.s135 : SL.tsz Try.prog 135 = some 2 := by kernel_rfl
theorem tab.z135 : SL.tzero Try.prog 135 = some [Value.int IntKind.i64 (0 : Int), Value.int IntKind.i64 (0 : Int)] := by kernel_rfl
theorem tab.a135 : SL.tagg Try.prog 135 = some true := by kernel_rfl
theorem tab.l135 : SL.tlit Try.prog 135 = some none := by kernel_rfl
theorem tab.u144 : Try.prog.underlying 144 = some (TypeDesc.struct #[{ name := "Who", type := 23, offset := 0, embedded := false, tag := "", pkgPath := "", byteOffset := 0 }, { name := "N", type := 2, offset := 16, embedded := false, tag := "", pkgPath := "", byteOffset := 16 }]) := by kernel_rfl
theorem tab.s144 : SL.tsz Try.prog 144 = some 17 := by kernel_rfl
theorem tab.z144 : SL.tzero Try.prog 144 = some [Value.int IntKind.u8 (0 : Int), Value.int IntKind.u8 (0 : Int), Value.int IntKind.u8 (0 : Int), Value.int IntKind.u8 (0 : Int), Value.int IntKind.u8 (0 : Int), Value.int IntKind.u8 (0 : Int), Value.int IntKind.u8 (0 : Int), Value.int IntKind.u8 (0 : Int), Value.int IntKind.u8 (0 : Int), Value.int IntKind.u8 (0 : Int), Value.int IntKind.u8 (0 : Int), Value.int IntKind.u8 (0 : Int), Value.int IntKind.u8 (0 : Int), Value.int IntKind.u8 (0 : Int), Value.int IntKind.u8 (0 : Int), Value.int IntKind.u8 (0 : Int), Value.int IntKind.i64 (0 : Int)] := by kernel_rfl
theorem tab.a144 : SL.tagg Try.prog 144 = some true := by kernel_rfl
theorem tab.l144 : SL.tlit Try.prog 144 = some none := by kernel_rfl
theorem tab.u145 : Try.prog.underlying 145 = some (TypeDesc.slice 3) := by kernel_rfl
theorem tab.s145 : SL.tsz Try.prog 145 = some 1 := by kernel_rfl
theorem tab.a145 : SL.tagg Try.prog 145 = some false := by kernel_rfl
theorem tab.u147 : Try.prog.underlying 147 = some (TypeDesc.struct #[{ name := "N", type := 2, offset := 0, embedded := false, tag := "", pkgPath := "", byteOffset := 0 }, { name := "Who", type := 23, offset := 1, embedded := false, tag := "", pkgPath := "", byteOffset := 8 }]) := by kernel_rfl
theorem tab.s147 : SL.tsz Try.prog 147 = some 17 := by kernel_rfl
theorem tab.z147 : SL.tzero Try.prog 147 = some [Value.int IntKind.i64 (0 : Int), Value.int IntKind.u8 (0 : Int), Value.int IntKind.u8 (0 : Int), Value.int IntKind.u8 (0 : Int), Value.int IntKind.u8 (0 : Int), Value.int IntKind.u8 (0 : Int), Value.int IntKind.u8 (0 : Int), Value.int IntKind.u8 (0 : Int), Value.int IntKind.u8 (0 : Int), Value.int IntKind.u8 (0 : Int), Value.int IntKind.u8 (0 : Int), Value.int IntKind.u8 (0 : Int), Value.int IntKind.u8 (0 : Int), Value.int IntKind.u8 (0 : Int), Value.int IntKind.u8 (0 : Int), Value.int IntKind.u8 (0 : Int), Value.int IntKind.u8 (0 : Int)] := by kernel_rfl
theorem tab.a147 : SL.tagg Try.prog 147 = some true := by kernel_rfl
theorem tab.l147 : SL.tlit Try.prog 147 = some none := by kernel_rfl
theorem tab.u149 : Try.prog.underlying 149 = some (TypeDesc.struct #[{ name := "Key", type := 23, offset := 0, embedded := false, tag := "", pkgPath := "", byteOffset := 0 }, { name := "Ver", type := 147, offset := 16, embedded := false, tag := "", pkgPath := "", byteOffset := 16 }, { name := "Value", type := 35, offset := 33, embedded := false, tag := "", pkgPath := "", byteOffset := 40 }]) := by kernel_rfl
theorem tab.s149 : SL.tsz Try.prog 149 = some 34 := by kernel_rfl
theorem tab.b149 : SL.tby Try.prog 149 = some 64 := by kernel_rfl
theorem tab.z149 : SL.tzero Try.prog 149 = some [Value.int IntKind.u8 (0 : Int), Value.int IntKind.u8 (0 : Int), Value.int IntKind.u8 (0 : Int), Value.int IntKind.u8 (0 : Int), Value.int IntKind.u8 (0 : Int), Value.int IntKind.u8 (0 : Int), Value.int IntKind.u8 (0 : Int), Value.int IntKind.u8 (0 : Int), Value.int IntKind.u8 (0 : Int), Value.int IntKind.u8 (0 : Int), Value.int IntKind.u8 (0 : Int), Value.int IntKind.u8 (0 : Int), Value.int IntKind.u8 (0 : Int), Value.int IntKind.u8 (0 : Int), Value.int IntKind.u8 (0 : Int), Value.int IntKind.u8 (0 : Int), Value.int IntKind.i64 (0 : Int), Value.int IntKind.u8 (0 : Int), Value.int IntKind.u8 (0 : Int), Value.int IntKind.u8 (0 : Int), Value.int IntKind.u8 (0 : Int), Value.int IntKind.u8 (0 : Int), Value.int IntKind.u8 (0 : Int), Value.int IntKind.u8 (0 : Int), Value.int IntKind.u8 (0 : Int), Value.int IntKind.u8 (0 : Int), Value.int IntKind.u8 (0 : Int), Value.int IntKind.u8 (0 : Int), Value.int IntKind.u8 (0 : Int), Value.int IntKind.u8 (0 : Int), Value.int IntKind.u8 (0 : Int), Value.int IntKind.u8 (0 : Int), Value.int IntKind.u8 (0 : Int), Value.slice none 0 0] := by kernel_rfl
theorem tab.a149 : SL.tagg Try.prog 149 = some true := by kernel_rfl
theorem tab.l149 : SL.tlit Try.prog 149 = some none := by kernel_rfl
theorem tab.u151 : Try.prog.underlying 151 = some (TypeDesc.struct #[{ name := "Kind", type := 3, offset := 0, embedded := false, tag := "", pkgPath := "", byteOffset := 0 }, { name := "P", type := 144, offset := 1, embedded := false, tag := "", pkgPath := "", byteOffset := 8 }, { name := "ToA", type := 4, offset := 18, embedded := false, tag := "", pkgPath := "", byteOffset := 32 }, { name := "A", type := 23, offset := 19, embedded := false, tag := "", pkgPath := "", byteOffset := 33 }, { name := "B", type := 23, offset := 35, embedded := false, tag := "", pkgPath := "", byteOffset := 49 }, { name := "N", type := 2, offset := 51, embedded := false, tag := "", pkgPath := "", byteOffset := 72 }, { name := "From", type := 135, offset := 52, embedded := false, tag := "", pkgPath := "", byteOffset := 80 }, { name := "To", type := 135, offset := 54, embedded := false, tag := "", pkgPath := "", byteOffset := 96 }, { name := "Trail", type := 145, offset := 56, embedded := false, tag := "", pkgPath := "", byteOffset := 112 }, { name := "IDs", type := 79, offset := 57, embedded := false, tag := "", pkgPath := "", byteOffset := 136 }, { name := "Item", type := 149, offset := 58, embedded := false, tag := "", pkgPath := "", byteOffset := 160 }, { name := "Op", type := 3, offset := 92, embedded := false, tag := "", pkgPath := "", byteOffset := 224 }, { name := "TTL", type := 3, offset := 93, embedded := false, tag := "", pkgPath := "", byteOffset := 232 }, { name := "Text", type := 35, offset := 94, embedded := false, tag := "", pkgPath := "", byteOffset := 240 }]) := by kernel_rfl
theorem tab.s151 : SL.tsz Try.prog 151 = some 95 := by kernel_rfl
theorem tab.z151 : SL.tzero Try.prog 151 = some [Value.int IntKind.i64 (0 : Int), Value.int IntKind.u8 (0 : Int), Value.int IntKind.u8 (0 : Int), Value.int IntKind.u8 (0 : Int), Value.int IntKind.u8 (0 : Int), Value.int IntKind.u8 (0 : Int), Value.int IntKind.u8 (0 : Int), Value.int IntKind.u8 (0 : Int), Value.int IntKind.u8 (0 : Int), Value.int IntKind.u8 (0 : Int), Value.int IntKind.u8 (0 : Int), Value.int IntKind.u8 (0 : Int), Value.int IntKind.u8 (0 : Int), Value.int IntKind.u8 (0 : Int), Value.int IntKind.u8 (0 : Int), Value.int IntKind.u8 (0 : Int), Value.int IntKind.u8 (0 : Int), Value.int IntKind.i64 (0 : Int), Value.bool false, Value.int IntKind.u8 (0 : Int), Value.int IntKind.u8 (0 : Int), Value.int IntKind.u8 (0 : Int), Value.int IntKind.u8 (0 : Int), Value.int IntKind.u8 (0 : Int), Value.int IntKind.u8 (0 : Int), Value.int IntKind.u8 (0 : Int), Value.int IntKind.u8 (0 : Int), Value.int IntKind.u8 (0 : Int), Value.int IntKind.u8 (0 : Int), Value.int IntKind.u8 (0 : Int), Value.int IntKind.u8 (0 : Int), Value.int IntKind.u8 (0 : Int), Value.int IntKind.u8 (0 : Int), Value.int IntKind.u8 (0 : Int), Value.int IntKind.u8 (0 : Int), Value.int IntKind.u8 (0 : Int), Value.int IntKind.u8 (0 : Int), Value.int IntKind.u8 (0 : Int), Value.int IntKind.u8 (0 : Int), Value.int IntKind.u8 (0 : Int), Value.int IntKind.u8 (0 : Int), Value.int IntKind.u8 (0 : Int), Value.int IntKind.u8 (0 : Int), Value.int IntKind.u8 (0 : Int), Value.int IntKind.u8 (0 : Int), Value.int IntKind.u8 (0 : Int), Value.int IntKind.u8 (0 : Int), Value.int IntKind.u8 (0 : Int), Value.int IntKind.u8 (0 : Int), Value.int IntKind.u8 (0 : Int), Value.int IntKind.u8 (0 : Int), Value.int IntKind.i64 (0 : Int), Value.int IntKind.i64 (0 : Int), Value.int IntKind.i64 (0 : Int), Value.int IntKind.i64 (0 : Int), Value.int IntKind.i64 (0 : Int), Value.slice none 0 0, Value.slice none 0 0, Value.int IntKind.u8 (0 : Int), Value.int IntKind.u8 (0 : Int), Value.int IntKind.u8 (0 : Int), Value.int IntKind.u8 (0 : Int), Value.int IntKind.u8 (0 : Int), Value.int IntKind.u8 (0 : Int), Value.int IntKind.u8 (0 : Int), Value.int IntKind.u8 (0 : Int), Value.int IntKind.u8 (0 : Int), Value.int IntKind.u8 (0 : Int), Value.int IntKind.u8 (0 : Int), Value.int IntKind.u8 (0 : Int), Value.int IntKind.u8 (0 : Int), Value.int IntKind.u8 (0 : Int), Value.int IntKind.u8 (0 : Int), Value.int IntKind.u8 (0 : Int), Value.int IntKind.i64 (0 : Int), Value.int IntKind.u8 (0 : Int), Value.int IntKind.u8 (0 : Int), Value.int IntKind.u8 (0 : Int), Value.int IntKind.u8 (0 : Int), Value.int IntKind.u8 (0 : Int), Value.int IntKind.u8 (0 : Int), Value.int IntKind.u8 (0 : Int), Value.int IntKind.u8 (0 : Int), Value.int IntKind.u8 (0 : Int), Value.int IntKind.u8 (0 : Int), Value.int IntKind.u8 (0 : Int), Value.int IntKind.u8 (0 : Int), Value.int IntKind.u8 (0 : Int), Value.int IntKind.u8 (0 : Int), Value.int IntKind.u8 (0 : Int), Value.int IntKind.u8 (0 : Int), Value.slice none 0 0, Value.int IntKind.i64 (0 : Int), Value.int IntKind.i64 (0 : Int), Value.slice none 0 0] := by kernel_rfl
theorem tab.a151 : SL.tagg Try.prog 151 = some true := by kernel_rfl
theorem tab.l151 : SL.tlit Try.prog 151 = some none := by kernel_rfl
theorem tab.u181 : Try.prog.underlying 181 = some (TypeDesc.interface #[("Kind", 173)]) := by kernel_rfl
theorem tab.u210 : Try.prog.underlying 210 = some (TypeDesc.struct #[{ name := "From", type := 135, offset := 0, embedded := false, tag := "", pkgPath := "", byteOffset := 0 }, { name := "To", type := 135, offset := 2, embedded := false, tag := "", pkgPath := "", byteOffset := 16 }, { name := "N", type := 2, offset := 4, embedded := false, tag := "", pkgPath := "", byteOffset := 32 }, { name := "Text", type := 35, offset := 5, embedded := false, tag := "", pkgPath := "", byteOffset := 40 }]) := by kernel_rfl
theorem tab.s210 : SL.tsz Try.prog 210 = some 6 := by kernel_rfl
theorem tab.z210 : SL.tzero Try.prog 210 = some [Value.int IntKind.i64 (0 : Int), Value.int IntKind.i64 (0 : Int), Value.int IntKind.i64 (0 : Int), Value.int IntKind.i64 (0 : Int), Value.int IntKind.i64 (0 : Int), Value.slice none 0 0] := by kernel_rfl
theorem tab.l210 : SL.tlit Try.prog 210 = some none := by kernel_rfl
theorem tab.u214 : Try.prog.underlying 214 = some (TypeDesc.struct #[{ name := "Mine", type := 135, offset := 0, embedded := false, tag := "", pkgPath := "", byteOffset := 0 }, { name := "Seen", type := 135, offset := 2, embedded := false, tag := "", pkgPath := "", byteOffset := 16 }, { name := "ID", type := 23, offset := 4, embedded := false, tag := "", pkgPath := "", byteOffset := 32 }]) := by kernel_rfl
theorem tab.s214 : SL.tsz Try.prog 214 = some 20 := by kernel_rfl
theorem tab.z214 : SL.tzero Try.prog 214 = some [Value.int IntKind.i64 (0 : Int), Value.int IntKind.i64 (0 : Int), Value.int IntKind.i64 (0 : Int), Value.int IntKind.i64 (0 : Int), Value.int IntKind.u8 (0 : Int), Value.int IntKind.u8 (0 : Int), Value.int IntKind.u8 (0 : Int), Value.int IntKind.u8 (0 : Int), Value.int IntKind.u8 (0 : Int), Value.int IntKind.u8 (0 : Int), Value.int IntKind.u8 (0 : Int), Value.int IntKind.u8 (0 : Int), Value.int IntKind.u8 (0 : Int), Value.int IntKind.u8 (0 : Int), Value.int IntKind.u8 (0 : Int), Value.int IntKind.u8 (0 : Int), Value.int IntKind.u8 (0 : Int), Value.int IntKind.u8 (0 : Int), Value.int IntKind.u8 (0 : Int), Value.int IntKind.u8 (0 : Int)] := by kernel_rfl
theorem tab.l214 : SL.tlit Try.prog 214 = some none := by kernel_rfl
theorem tab.u218 : Try.prog.underlying 218 = some (TypeDesc.struct #[{ name := "From", type := 135, offset := 0, embedded := false, tag := "", pkgPath := "", byteOffset := 0 }, { name := "To", type := 135, offset := 2, embedded := false, tag := "", pkgPath := "", byteOffset := 16 }, { name := "N", type := 2, offset := 4, embedded := false, tag := "", pkgPath := "", byteOffset := 32 }]) := by kernel_rfl
theorem tab.s218 : SL.tsz Try.prog 218 = some 5 := by kernel_rfl
theorem tab.z218 : SL.tzero Try.prog 218 = some [Value.int IntKind.i64 (0 : Int), Value.int IntKind.i64 (0 : Int), Value.int IntKind.i64 (0 : Int), Value.int IntKind.i64 (0 : Int), Value.int IntKind.i64 (0 : Int)] := by kernel_rfl
theorem tab.l218 : SL.tlit Try.prog 218 = some none := by kernel_rfl
theorem tab.b222 : SL.tby Try.prog 222 = some 24 := by kernel_rfl
theorem tab.z222 : SL.tzero Try.prog 222 = some [Value.slice none 0 0] := by kernel_rfl
theorem tab.l222 : SL.tlit Try.prog 222 = some none := by kernel_rfl
theorem tab.u226 : Try.prog.underlying 226 = some (TypeDesc.struct #[{ name := "P", type := 144, offset := 0, embedded := false, tag := "", pkgPath := "", byteOffset := 0 }, { name := "A", type := 23, offset := 17, embedded := false, tag := "", pkgPath := "", byteOffset := 24 }, { name := "B", type := 23, offset := 33, embedded := false, tag := "", pkgPath := "", byteOffset := 40 }, { name := "Trail", type := 145, offset := 49, embedded := false, tag := "", pkgPath := "", byteOffset := 56 }]) := by kernel_rfl
theorem tab.s226 : SL.tsz Try.prog 226 = some 50 := by kernel_rfl
theorem tab.z226 : SL.tzero Try.prog 226 = some [Value.int IntKind.u8 (0 : Int), Value.int IntKind.u8 (0 : Int), Value.int IntKind.u8 (0 : Int), Value.int IntKind.u8 (0 : Int), Value.int IntKind.u8 (0 : Int), Value.int IntKind.u8 (0 : Int), Value.int IntKind.u8 (0 : Int), Value.int IntKind.u8 (0 : Int), Value.int IntKind.u8 (0 : Int), Value.int IntKind.u8 (0 : Int), Value.int IntKind.u8 (0 : Int), Value.int IntKind.u8 (0 : Int), Value.int IntKind.u8 (0 : Int), Value.int IntKind.u8 (0 : Int), Value.int IntKind.u8 (0 : Int), Value.int IntKind.u8 (0 : Int), Value.int IntKind.i64 (0 : Int), Value.int IntKind.u8 (0 : Int), Value.int IntKind.u8 (0 : Int), Value.int IntKind.u8 (0 : Int), Value.int IntKind.u8 (0 : Int), Value.int IntKind.u8 (0 : Int), Value.int IntKind.u8 (0 : Int), Value.int IntKind.u8 (0 : Int), Value.int IntKind.u8 (0 : Int), Value.int IntKind.u8 (0 : Int), Value.int IntKind.u8 (0 : Int), Value.int IntKind.u8 (0 : Int), Value.int IntKind.u8 (0 : Int), Value.int IntKind.u8 (0 : Int), Value.int IntKind.u8 (0 : Int), Value.int IntKind.u8 (0 : Int), Value.int IntKind.u8 (0 : Int), Value.int IntKind.u8 (0 : Int), Value.int IntKind.u8 (0 : Int), Value.int IntKind.u8 (0 : Int), Value.int IntKind.u8 (0 : Int), Value.int IntKind.u8 (0 : Int), Value.int IntKind.u8 (0 : Int), Value.int IntKind.u8 (0 : Int), Value.int IntKind.u8 (0 : Int), Value.int IntKind.u8 (0 : Int), Value.int IntKind.u8 (0 : Int), Value.int IntKind.u8 (0 : Int), Value.int IntKind.u8 (0 : Int), Value.int IntKind.u8 (0 : Int), Value.int IntKind.u8 (0 : Int), Value.int IntKind.u8 (0 : Int), Value.int IntKind.u8 (0 : Int), Value.slice none 0 0] := by kernel_rfl
theorem tab.l226 : SL.tlit Try.prog 226 = some none := by kernel_rfl
theorem tab.u230 : Try.prog.underlying 230 = some (TypeDesc.struct #[{ name := "P", type := 144, offset := 0, embedded := false, tag := "", pkgPath := "", byteOffset := 0 }]) := by kernel_rfl
theorem tab.s230 : SL.tsz Try.prog 230 = some 17 := by kernel_rfl
theorem tab.z230 : SL.tzero Try.prog 230 = some [Value.int IntKind.u8 (0 : Int), Value.int IntKind.u8 (0 : Int), Value.int IntKind.u8 (0 : Int), Value.int IntKind.u8 (0 : Int), Value.int IntKind.u8 (0 : Int), Value.int IntKind.u8 (0 : Int), Value.int IntKind.u8 (0 : Int), Value.int IntKind.u8 (0 : Int), Value.int IntKind.u8 (0 : Int), Value.int IntKind.u8 (0 : Int), Value.int IntKind.u8 (0 : Int), Value.int IntKind.u8 (0 : Int), Value.int IntKind.u8 (0 : Int), Value.int IntKind.u8 (0 : Int), Value.int IntKind.u8 (0 : Int), Value.int IntKind.u8 (0 : Int), Value.int IntKind.i64 (0 : Int)] := by kernel_rfl
theorem tab.l230 : SL.tlit Try.prog 230 = some none := by kernel_rfl
theorem tab.u232 : Try.prog.underlying 232 = some (TypeDesc.struct #[{ name := "P", type := 144, offset := 0, embedded := false, tag := "", pkgPath := "", byteOffset := 0 }, { name := "ToA", type := 4, offset := 17, embedded := false, tag := "", pkgPath := "", byteOffset := 24 }]) := by kernel_rfl
theorem tab.s232 : SL.tsz Try.prog 232 = some 18 := by kernel_rfl
theorem tab.z232 : SL.tzero Try.prog 232 = some [Value.int IntKind.u8 (0 : Int), Value.int IntKind.u8 (0 : Int), Value.int IntKind.u8 (0 : Int), Value.int IntKind.u8 (0 : Int), Value.int IntKind.u8 (0 : Int), Value.int IntKind.u8 (0 : Int), Value.int IntKind.u8 (0 : Int), Value.int IntKind.u8 (0 : Int), Value.int IntKind.u8 (0 : Int), Value.int IntKind.u8 (0 : Int), Value.int IntKind.u8 (0 : Int), Value.int IntKind.u8 (0 : Int), Value.int IntKind.u8 (0 : Int), Value.int IntKind.u8 (0 : Int), Value.int IntKind.u8 (0 : Int), Value.int IntKind.u8 (0 : Int), Value.int IntKind.i64 (0 : Int), Value.bool false] := by kernel_rfl
theorem tab.l232 : SL.tlit Try.prog 232 = some none := by kernel_rfl
theorem tab.u235 : Try.prog.underlying 235 = some (TypeDesc.struct #[{ name := "P", type := 144, offset := 0, embedded := false, tag := "", pkgPath := "", byteOffset := 0 }, { name := "ToA", type := 4, offset := 17, embedded := false, tag := "", pkgPath := "", byteOffset := 24 }, { name := "IDs", type := 79, offset := 18, embedded := false, tag := "", pkgPath := "", byteOffset := 32 }]) := by kernel_rfl
theorem tab.s235 : SL.tsz Try.prog 235 = some 19 := by kernel_rfl
theorem tab.z235 : SL.tzero Try.prog 235 = some [Value.int IntKind.u8 (0 : Int), Value.int IntKind.u8 (0 : Int), Value.int IntKind.u8 (0 : Int), Value.int IntKind.u8 (0 : Int), Value.int IntKind.u8 (0 : Int), Value.int IntKind.u8 (0 : Int), Value.int IntKind.u8 (0 : Int), Value.int IntKind.u8 (0 : Int), Value.int IntKind.u8 (0 : Int), Value.int IntKind.u8 (0 : Int), Value.int IntKind.u8 (0 : Int), Value.int IntKind.u8 (0 : Int), Value.int IntKind.u8 (0 : Int), Value.int IntKind.u8 (0 : Int), Value.int IntKind.u8 (0 : Int), Value.int IntKind.u8 (0 : Int), Value.int IntKind.i64 (0 : Int), Value.bool false, Value.slice none 0 0] := by kernel_rfl
theorem tab.l235 : SL.tlit Try.prog 235 = some none := by kernel_rfl
theorem tab.u237 : Try.prog.underlying 237 = some (TypeDesc.struct #[{ name := "Who", type := 23, offset := 0, embedded := false, tag := "", pkgPath := "", byteOffset := 0 }, { name := "Want", type := 23, offset := 16, embedded := false, tag := "", pkgPath := "", byteOffset := 16 }, { name := "Leg", type := 3, offset := 32, embedded := false, tag := "", pkgPath := "", byteOffset := 32 }, { name := "P", type := 144, offset := 33, embedded := false, tag := "", pkgPath := "", byteOffset := 40 }, { name := "ToA", type := 4, offset := 50, embedded := false, tag := "", pkgPath := "", byteOffset := 64 }, { name := "Trail", type := 145, offset := 51, embedded := false, tag := "", pkgPath := "", byteOffset := 72 }]) := by kernel_rfl
theorem tab.s237 : SL.tsz Try.prog 237 = some 52 := by kernel_rfl
theorem tab.z237 : SL.tzero Try.prog 237 = some [Value.int IntKind.u8 (0 : Int), Value.int IntKind.u8 (0 : Int), Value.int IntKind.u8 (0 : Int), Value.int IntKind.u8 (0 : Int), Value.int IntKind.u8 (0 : Int), Value.int IntKind.u8 (0 : Int), Value.int IntKind.u8 (0 : Int), Value.int IntKind.u8 (0 : Int), Value.int IntKind.u8 (0 : Int), Value.int IntKind.u8 (0 : Int), Value.int IntKind.u8 (0 : Int), Value.int IntKind.u8 (0 : Int), Value.int IntKind.u8 (0 : Int), Value.int IntKind.u8 (0 : Int), Value.int IntKind.u8 (0 : Int), Value.int IntKind.u8 (0 : Int), Value.int IntKind.u8 (0 : Int), Value.int IntKind.u8 (0 : Int), Value.int IntKind.u8 (0 : Int), Value.int IntKind.u8 (0 : Int), Value.int IntKind.u8 (0 : Int), Value.int IntKind.u8 (0 : Int), Value.int IntKind.u8 (0 : Int), Value.int IntKind.u8 (0 : Int), Value.int IntKind.u8 (0 : Int), Value.int IntKind.u8 (0 : Int), Value.int IntKind.u8 (0 : Int), Value.int IntKind.u8 (0 : Int), Value.int IntKind.u8 (0 : Int), Value.int IntKind.u8 (0 : Int), Value.int IntKind.u8 (0 : Int), Value.int IntKind.u8 (0 : Int), Value.int IntKind.i64 (0 : Int), Value.int IntKind.u8 (0 : Int), Value.int IntKind.u8 (0 : Int), Value.int IntKind.u8 (0 : Int), Value.int IntKind.u8 (0 : Int), Value.int IntKind.u8 (0 : Int), Value.int IntKind.u8 (0 : Int), Value.int IntKind.u8 (0 : Int), Value.int IntKind.u8 (0 : Int), Value.int IntKind.u8 (0 : Int), Value.int IntKind.u8 (0 : Int), Value.int IntKind.u8 (0 : Int), Value.int IntKind.u8 (0 : Int), Value.int IntKind.u8 (0 : Int), Value.int IntKind.u8 (0 : Int), Value.int IntKind.u8 (0 : Int), Value.int IntKind.u8 (0 : Int), Value.int IntKind.i64 (0 : Int), Value.bool false, Value.slice none 0 0] := by kernel_rfl
theorem tab.l237 : SL.tlit Try.prog 237 = some none := by kernel_rfl
theorem tab.u239 : Try.prog.underlying 239 = some (TypeDesc.struct #[{ name := "ID", type := 23, offset := 0, embedded := false, tag := "", pkgPath := "", byteOffset := 0 }, { name := "Far", type := 2, offset := 16, embedded := false, tag := "", pkgPath := "", byteOffset := 16 }]) := by kernel_rfl
theorem tab.s239 : SL.tsz Try.prog 239 = some 17 := by kernel_rfl
theorem tab.z239 : SL.tzero Try.prog 239 = some [Value.int IntKind.u8 (0 : Int), Value.int IntKind.u8 (0 : Int), Value.int IntKind.u8 (0 : Int), Value.int IntKind.u8 (0 : Int), Value.int IntKind.u8 (0 : Int), Value.int IntKind.u8 (0 : Int), Value.int IntKind.u8 (0 : Int), Value.int IntKind.u8 (0 : Int), Value.int IntKind.u8 (0 : Int), Value.int IntKind.u8 (0 : Int), Value.int IntKind.u8 (0 : Int), Value.int IntKind.u8 (0 : Int), Value.int IntKind.u8 (0 : Int), Value.int IntKind.u8 (0 : Int), Value.int IntKind.u8 (0 : Int), Value.int IntKind.u8 (0 : Int), Value.int IntKind.i64 (0 : Int)] := by kernel_rfl
theorem tab.l239 : SL.tlit Try.prog 239 = some none := by kernel_rfl
theorem tab.u241 : Try.prog.underlying 241 = some (TypeDesc.struct #[{ name := "Src", type := 23, offset := 0, embedded := false, tag := "", pkgPath := "", byteOffset := 0 }, { name := "Dst", type := 23, offset := 16, embedded := false, tag := "", pkgPath := "", byteOffset := 16 }, { name := "Req", type := 2, offset := 32, embedded := false, tag := "", pkgPath := "", byteOffset := 32 }, { name := "Op", type := 3, offset := 33, embedded := false, tag := "", pkgPath := "", byteOffset := 40 }, { name := "TTL", type := 3, offset := 34, embedded := false, tag := "", pkgPath := "", byteOffset := 48 }, { name := "Item", type := 149, offset := 35, embedded := false, tag := "", pkgPath := "", byteOffset := 56 }, { name := "Text", type := 35, offset := 69, embedded := false, tag := "", pkgPath := "", byteOffset := 120 }]) := by kernel_rfl
theorem tab.s241 : SL.tsz Try.prog 241 = some 70 := by kernel_rfl
theorem tab.z241 : SL.tzero Try.prog 241 = some [Value.int IntKind.u8 (0 : Int), Value.int IntKind.u8 (0 : Int), Value.int IntKind.u8 (0 : Int), Value.int IntKind.u8 (0 : Int), Value.int IntKind.u8 (0 : Int), Value.int IntKind.u8 (0 : Int), Value.int IntKind.u8 (0 : Int), Value.int IntKind.u8 (0 : Int), Value.int IntKind.u8 (0 : Int), Value.int IntKind.u8 (0 : Int), Value.int IntKind.u8 (0 : Int), Value.int IntKind.u8 (0 : Int), Value.int IntKind.u8 (0 : Int), Value.int IntKind.u8 (0 : Int), Value.int IntKind.u8 (0 : Int), Value.int IntKind.u8 (0 : Int), Value.int IntKind.u8 (0 : Int), Value.int IntKind.u8 (0 : Int), Value.int IntKind.u8 (0 : Int), Value.int IntKind.u8 (0 : Int), Value.int IntKind.u8 (0 : Int), Value.int IntKind.u8 (0 : Int), Value.int IntKind.u8 (0 : Int), Value.int IntKind.u8 (0 : Int), Value.int IntKind.u8 (0 : Int), Value.int IntKind.u8 (0 : Int), Value.int IntKind.u8 (0 : Int), Value.int IntKind.u8 (0 : Int), Value.int IntKind.u8 (0 : Int), Value.int IntKind.u8 (0 : Int), Value.int IntKind.u8 (0 : Int), Value.int IntKind.u8 (0 : Int), Value.int IntKind.i64 (0 : Int), Value.int IntKind.i64 (0 : Int), Value.int IntKind.i64 (0 : Int), Value.int IntKind.u8 (0 : Int), Value.int IntKind.u8 (0 : Int), Value.int IntKind.u8 (0 : Int), Value.int IntKind.u8 (0 : Int), Value.int IntKind.u8 (0 : Int), Value.int IntKind.u8 (0 : Int), Value.int IntKind.u8 (0 : Int), Value.int IntKind.u8 (0 : Int), Value.int IntKind.u8 (0 : Int), Value.int IntKind.u8 (0 : Int), Value.int IntKind.u8 (0 : Int), Value.int IntKind.u8 (0 : Int), Value.int IntKind.u8 (0 : Int), Value.int IntKind.u8 (0 : Int), Value.int IntKind.u8 (0 : Int), Value.int IntKind.u8 (0 : Int), Value.int IntKind.i64 (0 : Int), Value.int IntKind.u8 (0 : Int), Value.int IntKind.u8 (0 : Int), Value.int IntKind.u8 (0 : Int), Value.int IntKind.u8 (0 : Int), Value.int IntKind.u8 (0 : Int), Value.int IntKind.u8 (0 : Int), Value.int IntKind.u8 (0 : Int), Value.int IntKind.u8 (0 : Int), Value.int IntKind.u8 (0 : Int), Value.int IntKind.u8 (0 : Int), Value.int IntKind.u8 (0 : Int), Value.int IntKind.u8 (0 : Int), Value.int IntKind.u8 (0 : Int), Value.int IntKind.u8 (0 : Int), Value.int IntKind.u8 (0 : Int), Value.int IntKind.u8 (0 : Int), Value.slice none 0 0, Value.slice none 0 0] := by kernel_rfl
theorem tab.l241 : SL.tlit Try.prog 241 = some none := by kernel_rfl
theorem tab.u244 : Try.prog.underlying 244 = some (TypeDesc.struct #[{ name := "P", type := 144, offset := 0, embedded := false, tag := "", pkgPath := "", byteOffset := 0 }, { name := "ToA", type := 4, offset := 17, embedded := false, tag := "", pkgPath := "", byteOffset := 24 }, { name := "Item", type := 149, offset := 18, embedded := false, tag := "", pkgPath := "", byteOffset := 32 }]) := by kernel_rfl
theorem tab.s244 : SL.tsz Try.prog 244 = some 52 := by kernel_rfl
theorem tab.z244 : SL.tzero Try.prog 244 = some [Value.int IntKind.u8 (0 : Int), Value.int IntKind.u8 (0 : Int), Value.int IntKind.u8 (0 : Int), Value.int IntKind.u8 (0 : Int), Value.int IntKind.u8 (0 : Int), Value.int IntKind.u8 (0 : Int), Value.int IntKind.u8 (0 : Int), Value.int IntKind.u8 (0 : Int), Value.int IntKind.u8 (0 : Int), Value.int IntKind.u8 (0 : Int), Value.int IntKind.u8 (0 : Int), Value.int IntKind.u8 (0 : Int), Value.int IntKind.u8 (0 : Int), Value.int IntKind.u8 (0 : Int), Value.int IntKind.u8 (0 : Int), Value.int IntKind.u8 (0 : Int), Value.int IntKind.i64 (0 : Int), Value.bool false, Value.int IntKind.u8 (0 : Int), Value.int IntKind.u8 (0 : Int), Value.int IntKind.u8 (0 : Int), Value.int IntKind.u8 (0 : Int), Value.int IntKind.u8 (0 : Int), Value.int IntKind.u8 (0 : Int), Value.int IntKind.u8 (0 : Int), Value.int IntKind.u8 (0 : Int), Value.int IntKind.u8 (0 : Int), Value.int IntKind.u8 (0 : Int), Value.int IntKind.u8 (0 : Int), Value.int IntKind.u8 (0 : Int), Value.int IntKind.u8 (0 : Int), Value.int IntKind.u8 (0 : Int), Value.int IntKind.u8 (0 : Int), Value.int IntKind.u8 (0 : Int), Value.int IntKind.i64 (0 : Int), Value.int IntKind.u8 (0 : Int), Value.int IntKind.u8 (0 : Int), Value.int IntKind.u8 (0 : Int), Value.int IntKind.u8 (0 : Int), Value.int IntKind.u8 (0 : Int), Value.int IntKind.u8 (0 : Int), Value.int IntKind.u8 (0 : Int), Value.int IntKind.u8 (0 : Int), Value.int IntKind.u8 (0 : Int), Value.int IntKind.u8 (0 : Int), Value.int IntKind.u8 (0 : Int), Value.int IntKind.u8 (0 : Int), Value.int IntKind.u8 (0 : Int), Value.int IntKind.u8 (0 : Int), Value.int IntKind.u8 (0 : Int), Value.int IntKind.u8 (0 : Int), Value.slice none 0 0] := by kernel_rfl
theorem tab.l244 : SL.tlit Try.prog 244 = some none := by kernel_rfl
theorem tab.u246 : Try.prog.underlying 246 = some (TypeDesc.struct #[{ name := "P", type := 144, offset := 0, embedded := false, tag := "", pkgPath := "", byteOffset := 0 }, { name := "ToA", type := 4, offset := 17, embedded := false, tag := "", pkgPath := "", byteOffset := 24 }, { name := "Key", type := 23, offset := 18, embedded := false, tag := "", pkgPath := "", byteOffset := 25 }, { name := "Ver", type := 147, offset := 34, embedded := false, tag := "", pkgPath := "", byteOffset := 48 }]) := by kernel_rfl
theorem tab.s246 : SL.tsz Try.prog 246 = some 51 := by kernel_rfl
theorem tab.z246 : SL.tzero Try.prog 246 = some [Value.int IntKind.u8 (0 : Int), Value.int IntKind.u8 (0 : Int), Value.int IntKind.u8 (0 : Int), Value.int IntKind.u8 (0 : Int), Value.int IntKind.u8 (0 : Int), Value.int IntKind.u8 (0 : Int), Value.int IntKind.u8 (0 : Int), Value.int IntKind.u8 (0 : Int), Value.int IntKind.u8 (0 : Int), Value.int IntKind.u8 (0 : Int), Value.int IntKind.u8 (0 : Int), Value.int IntKind.u8 (0 : Int), Value.int IntKind.u8 (0 : Int), Value.int IntKind.u8 (0 : Int), Value.int IntKind.u8 (0 : Int), Value.int IntKind.u8 (0 : Int), Value.int IntKind.i64 (0 : Int), Value.bool false, Value.int IntKind.u8 (0 : Int), Value.int IntKind.u8 (0 : Int), Value.int IntKind.u8 (0 : Int), Value.int IntKind.u8 (0 : Int), Value.int IntKind.u8 (0 : Int), Value.int IntKind.u8 (0 : Int), Value.int IntKind.u8 (0 : Int), Value.int IntKind.u8 (0 : Int), Value.int IntKind.u8 (0 : Int), Value.int IntKind.u8 (0 : Int), Value.int IntKind.u8 (0 : Int), Value.int IntKind.u8 (0 : Int), Value.int IntKind.u8 (0 : Int), Value.int IntKind.u8 (0 : Int), Value.int IntKind.u8 (0 : Int), Value.int IntKind.u8 (0 : Int), Value.int IntKind.i64 (0 : Int), Value.int IntKind.u8 (0 : Int), Value.int IntKind.u8 (0 : Int), Value.int IntKind.u8 (0 : Int), Value.int IntKind.u8 (0 : Int), Value.int IntKind.u8 (0 : Int), Value.int IntKind.u8 (0 : Int), Value.int IntKind.u8 (0 : Int), Value.int IntKind.u8 (0 : Int), Value.int IntKind.u8 (0 : Int), Value.int IntKind.u8 (0 : Int), Value.int IntKind.u8 (0 : Int), Value.int IntKind.u8 (0 : Int), Value.int IntKind.u8 (0 : Int), Value.int IntKind.u8 (0 : Int), Value.int IntKind.u8 (0 : Int), Value.int IntKind.u8 (0 : Int)] := by kernel_rfl
theorem tab.l246 : SL.tlit Try.prog 246 = some none := by kernel_rfl
theorem tab.b251 : SL.tby Try.prog 251 = some 32 := by kernel_rfl
theorem tab.z251 : SL.tzero Try.prog 251 = some [Value.slice none 0 0, Value.int IntKind.i64 (0 : Int)] := by kernel_rfl
theorem tab.l251 : SL.tlit Try.prog 251 = some none := by kernel_rfl
theorem tab.f135x0 : SL.tfield Try.prog 135 0 = some (2, 0, 1) := by kernel_rfl
theorem tab.f135x1 : SL.tfield Try.prog 135 1 = some (2, 1, 1) := by kernel_rfl
theorem tab.f144x0 : SL.tfield Try.prog 144 0 = some (23, 0, 16) := by kernel_rfl
theorem tab.f144x1 : SL.tfield Try.prog 144 1 = some (2, 16, 1) := by kernel_rfl
theorem tab.f147x0 : SL.tfield Try.prog 147 0 = some (2, 0, 1) := by kernel_rfl
theorem tab.f147x1 : SL.tfield Try.prog 147 1 = some (23, 1, 16) := by kernel_rfl
theorem tab.f149x0 : SL.tfield Try.prog 149 0 = some (23, 0, 16) := by kernel_rfl
theorem tab.f149x1 : SL.tfield Try.prog 149 1 = some (147, 16, 17) := by kernel_rfl
theorem tab.f149x2 : SL.tfield Try.prog 149 2 = some (35, 33, 1) := by kernel_rfl
theorem tab.f151x0 : SL.tfield Try.prog 151 0 = some (3, 0, 1) := by kernel_rfl
theorem tab.f151x1 : SL.tfield Try.prog 151 1 = some (144, 1, 17) := by kernel_rfl
theorem tab.f151x2 : SL.tfield Try.prog 151 2 = some (4, 18, 1) := by kernel_rfl
theorem tab.f151x3 : SL.tfield Try.prog 151 3 = some (23, 19, 16) := by kernel_rfl
theorem tab.f151x4 : SL.tfield Try.prog 151 4 = some (23, 35, 16) := by kernel_rfl
theorem tab.f151x5 : SL.tfield Try.prog 151 5 = some (2, 51, 1) := by kernel_rfl
theorem tab.f151x6 : SL.tfield Try.prog 151 6 = some (135, 52, 2) := by kernel_rfl
theorem tab.f151x7 : SL.tfield Try.prog 151 7 = some (135, 54, 2) := by kernel_rfl
theorem tab.f151x8 : SL.tfield Try.prog 151 8 = some (145, 56, 1) := by kernel_rfl
theorem tab.f151x9 : SL.tfield Try.prog 151 9 = some (79, 57, 1) := by kernel_rfl
theorem tab.f151x10 : SL.tfield Try.prog 151 10 = some (149, 58, 34) := by kernel_rfl
theorem tab.f151x11 : SL.tfield Try.prog 151 11 = some (3, 92, 1) := by kernel_rfl
theorem tab.f151x12 : SL.tfield Try.prog 151 12 = some (3, 93, 1) := by kernel_rfl
theorem tab.f151x13 : SL.tfield Try.prog 151 13 = some (35, 94, 1) := by kernel_rfl
theorem tab.f210x0 : SL.tfield Try.prog 210 0 = some (135, 0, 2) := by kernel_rfl
theorem tab.f210x1 : SL.tfield Try.prog 210 1 = some (135, 2, 2) := by kernel_rfl
theorem tab.f210x2 : SL.tfield Try.prog 210 2 = some (2, 4, 1) := by kernel_rfl
theorem tab.f210x3 : SL.tfield Try.prog 210 3 = some (35, 5, 1) := by kernel_rfl
theorem tab.f214x0 : SL.tfield Try.prog 214 0 = some (135, 0, 2) := by kernel_rfl
theorem tab.f214x1 : SL.tfield Try.prog 214 1 = some (135, 2, 2) := by kernel_rfl
theorem tab.f214x2 : SL.tfield Try.prog 214 2 = some (23, 4, 16) := by kernel_rfl
theorem tab.f218x0 : SL.tfield Try.prog 218 0 = some (135, 0, 2) := by kernel_rfl
theorem tab.f218x1 : SL.tfield Try.prog 218 1 = some (135, 2, 2) := by kernel_rfl
theorem tab.f218x2 : SL.tfield Try.prog 218 2 = some (2, 4, 1) := by kernel_rfl
theorem tab.f222x0 : SL.tfield Try.prog 222 0 = some (35, 0, 1) := by kernel_rfl
theorem tab.f226x0 : SL.tfield Try.prog 226 0 = some (144, 0, 17) := by kernel_rfl
theorem tab.f226x1 : SL.tfield Try.prog 226 1 = some (23, 17, 16) := by kernel_rfl
theorem tab.f226x2 : SL.tfield Try.prog 226 2 = some (23, 33, 16) := by kernel_rfl
theorem tab.f226x3 : SL.tfield Try.prog 226 3 = some (145, 49, 1) := by kernel_rfl
theorem tab.f230x0 : SL.tfield Try.prog 230 0 = some (144, 0, 17) := by kernel_rfl
theorem tab.f232x0 : SL.tfield Try.prog 232 0 = some (144, 0, 17) := by kernel_rfl
theorem tab.f232x1 : SL.tfield Try.prog 232 1 = some (4, 17, 1) := by kernel_rfl
theorem tab.f235x0 : SL.tfield Try.prog 235 0 = some (144, 0, 17) := by kernel_rfl
theorem tab.f235x1 : SL.tfield Try.prog 235 1 = some (4, 17, 1) := by kernel_rfl
theorem tab.f235x2 : SL.tfield Try.prog 235 2 = some (79, 18, 1) := by kernel_rfl
theorem tab.f237x0 : SL.tfield Try.prog 237 0 = some (23, 0, 16) := by kernel_rfl
theorem tab.f237x1 : SL.tfield Try.prog 237 1 = some (23, 16, 16) := by kernel_rfl
theorem tab.f237x2 : SL.tfield Try.prog 237 2 = some (3, 32, 1) := by kernel_rfl
theorem tab.f237x3 : SL.tfield Try.prog 237 3 = some (144, 33, 17) := by kernel_rfl
theorem tab.f237x4 : SL.tfield Try.prog 237 4 = some (4, 50, 1) := by kernel_rfl
theorem tab.f237x5 : SL.tfield Try.prog 237 5 = some (145, 51, 1) := by kernel_rfl
theorem tab.f239x0 : SL.tfield Try.prog 239 0 = some (23, 0, 16) := by kernel_rfl
theorem tab.f239x1 : SL.tfield Try.prog 239 1 = some (2, 16, 1) := by kernel_rfl
theorem tab.f241x0 : SL.tfield Try.prog 241 0 = some (23, 0, 16) := by kernel_rfl
theorem tab.f241x1 : SL.tfield Try.prog 241 1 = some (23, 16, 16) := by kernel_rfl
theorem tab.f241x2 : SL.tfield Try.prog 241 2 = some (2, 32, 1) := by kernel_rfl
theorem tab.f241x3 : SL.tfield Try.prog 241 3 = some (3, 33, 1) := by kernel_rfl
theorem tab.f241x4 : SL.tfield Try.prog 241 4 = some (3, 34, 1) := by kernel_rfl
theorem tab.f241x5 : SL.tfield Try.prog 241 5 = some (149, 35, 34) := by kernel_rfl
theorem tab.f241x6 : SL.tfield Try.prog 241 6 = some (35, 69, 1) := by kernel_rfl
theorem tab.f244x0 : SL.tfield Try.prog 244 0 = some (144, 0, 17) := by kernel_rfl
theorem tab.f244x1 : SL.tfield Try.prog 244 1 = some (4, 17, 1) := by kernel_rfl
theorem tab.f244x2 : SL.tfield Try.prog 244 2 = some (149, 18, 34) := by kernel_rfl
theorem tab.f246x0 : SL.tfield Try.prog 246 0 = some (144, 0, 17) := by kernel_rfl
theorem tab.f246x1 : SL.tfield Try.prog 246 1 = some (4, 17, 1) := by kernel_rfl
theorem tab.f246x2 : SL.tfield Try.prog 246 2 = some (23, 18, 16) := by kernel_rfl
theorem tab.f246x3 : SL.tfield Try.prog 246 3 = some (147, 34, 17) := by kernel_rfl
theorem tab.f251x0 : SL.tfield Try.prog 251 0 = some (35, 0, 1) := by kernel_rfl
theorem tab.f251x1 : SL.tfield Try.prog 251 1 = some (3, 1, 1) := by kernel_rfl
end Go.Proofs
