/- Contracts of functions that the laws reach, on abstract values, and what they need: no conditions but those that each theorem states. -/
import Derived.Test.YtheodenjjaoncaaProg
import Derived.KernelRfl
import Derived.Test.YtheodenjjaoncaaSlM
set_option linter.unusedVariables false
set_option linter.unusedSimpArgs false
set_option linter.defProp false
namespace Go.Proofs
open Go
theorem tab.u2 : Try.prog.underlying 2 = some (TypeDesc.int IntKind.i64) := by kernel_rfl
theorem tab.s2 : SL.tsz Try.prog 2 = some 1 := by kernel_rfl
theorem tab.b2 : SL.tby Try.prog 2 = some 8 := by kernel_rfl
theorem tab.z2 : SL.tzero Try.prog 2 = some [Value.int IntKind.i64 (0 : Int)] := by kernel_rfl
theorem tab.a2 : SL.tagg Try.prog 2 = some false := by kernel_rfl
theorem tab.u3 : Try.prog.underlying 3 = some (TypeDesc.int IntKind.i64) := by kernel_rfl
theorem tab.s3 : SL.tsz Try.prog 3 = some 1 := by kernel_rfl
theorem tab.z3 : SL.tzero Try.prog 3 = some [Value.int IntKind.i64 (0 : Int)] := by kernel_rfl
theorem tab.a3 : SL.tagg Try.prog 3 = some false := by kernel_rfl
theorem tab.u4 : Try.prog.underlying 4 = some TypeDesc.bool := by kernel_rfl
theorem tab.s4 : SL.tsz Try.prog 4 = some 1 := by kernel_rfl
theorem tab.a4 : SL.tagg Try.prog 4 = some false := by kernel_rfl
theorem tab.u5 : Try.prog.underlying 5 = some (TypeDesc.int IntKind.u8) := by kernel_rfl
theorem tab.s5 : SL.tsz Try.prog 5 = some 1 := by kernel_rfl
theorem tab.b5 : SL.tby Try.prog 5 = some 1 := by kernel_rfl
theorem tab.z5 : SL.tzero Try.prog 5 = some [Value.int IntKind.u8 (0 : Int)] := by kernel_rfl
theorem tab.a5 : SL.tagg Try.prog 5 = some false := by kernel_rfl
theorem tab.u9 : Try.prog.underlying 9 = some TypeDesc.string := by kernel_rfl
theorem tab.s9 : SL.tsz Try.prog 9 = some 1 := by kernel_rfl
theorem tab.a9 : SL.tagg Try.prog 9 = some false := by kernel_rfl
theorem tab.u23 : Try.prog.underlying 23 = some (TypeDesc.array 16 5) := by kernel_rfl
theorem tab.s23 : SL.tsz Try.prog 23 = some 16 := by kernel_rfl
theorem tab.z23 : SL.tzero Try.prog 23 = some [Value.int IntKind.u8 (0 : Int), Value.int IntKind.u8 (0 : Int), Value.int IntKind.u8 (0 : Int), Value.int IntKind.u8 (0 : Int), Value.int IntKind.u8 (0 : Int), Value.int IntKind.u8 (0 : Int), Value.int IntKind.u8 (0 : Int), Value.int IntKind.u8 (0 : Int), Value.int IntKind.u8 (0 : Int), Value.int IntKind.u8 (0 : Int), Value.int IntKind.u8 (0 : Int), Value.int IntKind.u8 (0 : Int), Value.int IntKind.u8 (0 : Int), Value.int IntKind.u8 (0 : Int), Value.int IntKind.u8 (0 : Int), Value.int IntKind.u8 (0 : Int)] := by kernel_rfl
theorem tab.a23 : SL.tagg Try.prog 23 = some true := by kernel_rfl
theorem tab.l23 : SL.tlit Try.prog 23 = some (some 1) := by kernel_rfl
theorem tab.u35 : Try.prog.underlying 35 = some (TypeDesc.slice 5) := by kernel_rfl
theorem tab.s35 : SL.tsz Try.prog 35 = some 1 := by kernel_rfl
theorem tab.b35 : SL.tby Try.prog 35 = some 24 := by kernel_rfl
theorem tab.z35 : SL.tzero Try.prog 35 = some [Value.slice none 0 0] := by kernel_rfl
theorem tab.a35 : SL.tagg Try.prog 35 = some false := by kernel_rfl
theorem tab.u44 : Try.prog.underlying 44 = some (TypeDesc.slice 35) := by kernel_rfl
theorem tab.s44 : SL.tsz Try.prog 44 = some 1 := by kernel_rfl
theorem tab.a44 : SL.tagg Try.prog 44 = some false := by kernel_rfl
theorem tab.u50 : Try.prog.underlying 50 = some (TypeDesc.pointer 197) := by kernel_rfl
theorem tab.s50 : SL.tsz Try.prog 50 = some 1 := by kernel_rfl
theorem tab.a50 : SL.tagg Try.prog 50 = some false := by kernel_rfl
theorem tab.u75 : Try.prog.underlying 75 = some (TypeDesc.int IntKind.u64) := by kernel_rfl
theorem tab.u119 : Try.prog.underlying 119 = some (TypeDesc.slice 132) := by kernel_rfl
theorem tab.u121 : Try.prog.underlying 121 = some (TypeDesc.pointer 204) := by kernel_rfl
theorem tab.s121 : SL.tsz Try.prog 121 = some 1 := by kernel_rfl
theorem tab.a121 : SL.tagg Try.prog 121 = some false := by kernel_rfl
theorem tab.u123 : Try.prog.underlying 123 = some (TypeDesc.array 2 121) := by kernel_rfl
theorem tab.b123 : SL.tby Try.prog 123 = some 16 := by kernel_rfl
theorem tab.z123 : SL.tzero Try.prog 123 = some [Value.pointer none, Value.pointer none] := by kernel_rfl
theorem tab.l123 : SL.tlit Try.prog 123 = some (some 1) := by kernel_rfl
theorem tab.u124 : Try.prog.underlying 124 = some (TypeDesc.slice 151) := by kernel_rfl
theorem tab.s124 : SL.tsz Try.prog 124 = some 1 := by kernel_rfl
theorem tab.a124 : SL.tagg Try.prog 124 = some false := by kernel_rfl
theorem tab.u125 : Try.prog.underlying 125 = some (TypeDesc.array 2 124) := by kernel_rfl
theorem tab.u126 : Try.prog.underlying 126 = some (TypeDesc.array 2 2) := by kernel_rfl
theorem tab.u127 : Try.prog.underlying 127 = some (TypeDesc.slice 137) := by kernel_rfl
theorem tab.s127 : SL.tsz Try.prog 127 = some 1 := by kernel_rfl
theorem tab.a127 : SL.tagg Try.prog 127 = some false := by kernel_rfl
theorem tab.u128 : Try.prog.underlying 128 = some (TypeDesc.array 2 127) := by kernel_rfl
theorem tab.b130 : SL.tby Try.prog 130 = some 176 := by kernel_rfl
theorem tab.z130 : SL.tzero Try.prog 130 = some [Value.pointer none, Value.pointer none, Value.slice none 0 0, Value.slice none 0 0, Value.int IntKind.i64 (0 : Int), Value.int IntKind.i64 (0 : Int), Value.slice none 0 0, Value.slice none 0 0, Value.slice none 0 0, Value.slice none 0 0] := by kernel_rfl
theorem tab.l130 : SL.tlit Try.prog 130 = some none := by kernel_rfl
theorem tab.u132 : Try.prog.underlying 132 = some (TypeDesc.struct #[{ name := "Kind", type := 3, offset := 0, embedded := false, tag := "", pkgPath := "", byteOffset := 0 }, { name := "Side", type := 3, offset := 1, embedded := false, tag := "", pkgPath := "", byteOffset := 8 }, { name := "I", type := 3, offset := 2, embedded := false, tag := "", pkgPath := "", byteOffset := 16 }, { name := "Text", type := 35, offset := 3, embedded := false, tag := "", pkgPath := "", byteOffset := 24 }]) := by kernel_rfl
theorem tab.s132 : SL.tsz Try.prog 132 = some 4 := by kernel_rfl
theorem tab.z132 : SL.tzero Try.prog 132 = some [Value.int IntKind.i64 (0 : Int), Value.int IntKind.i64 (0 : Int), Value.int IntKind.i64 (0 : Int), Value.slice none 0 0] := by kernel_rfl
theorem tab.a132 : SL.tagg Try.prog 132 = some true := by kernel_rfl
theorem tab.u135 : Try.prog.underlying 135 = some (TypeDesc.struct #[{ name := "Inc", type := 2, offset := 0, embedded := false, tag := "", pkgPath := "", byteOffset := 0 }, { name := "N", type := 2, offset := 1, embedded := false, tag := "", pkgPath := "", byteOffset := 8 }]) := by kernel_rfl
theorem tab.s135 : SL.tsz Try.prog 135 = some 2 := by kernel_rfl
theorem tab.b135 : SL.tby Try.prog 135 = some 16 := by kernel_rfl
theorem tab.z135 : SL.tzero Try.prog 135 = some [Value.int IntKind.i64 (0 : Int), Value.int IntKind.i64 (0 : Int)] := by kernel_rfl
theorem tab.a135 : SL.tagg Try.prog 135 = some true := by kernel_rfl
theorem tab.l135 : SL.tlit Try.prog 135 = some none := by kernel_rfl
theorem tab.s137 : SL.tsz Try.prog 137 = some 5 := by kernel_rfl
theorem tab.b137 : SL.tby Try.prog 137 = some 48 := by kernel_rfl
theorem tab.z137 : SL.tzero Try.prog 137 = some [Value.int IntKind.i64 (0 : Int), Value.int IntKind.i64 (0 : Int), Value.int IntKind.i64 (0 : Int), Value.int IntKind.i64 (0 : Int), Value.string { data := #[] }] := by kernel_rfl
theorem tab.a137 : SL.tagg Try.prog 137 = some true := by kernel_rfl
theorem tab.l137 : SL.tlit Try.prog 137 = some none := by kernel_rfl
theorem tab.s151 : SL.tsz Try.prog 151 = some 95 := by kernel_rfl
theorem tab.b151 : SL.tby Try.prog 151 = some 264 := by kernel_rfl
theorem tab.z151 : SL.tzero Try.prog 151 = some [Value.int IntKind.i64 (0 : Int), Value.int IntKind.u8 (0 : Int), Value.int IntKind.u8 (0 : Int), Value.int IntKind.u8 (0 : Int), Value.int IntKind.u8 (0 : Int), Value.int IntKind.u8 (0 : Int), Value.int IntKind.u8 (0 : Int), Value.int IntKind.u8 (0 : Int), Value.int IntKind.u8 (0 : Int), Value.int IntKind.u8 (0 : Int), Value.int IntKind.u8 (0 : Int), Value.int IntKind.u8 (0 : Int), Value.int IntKind.u8 (0 : Int), Value.int IntKind.u8 (0 : Int), Value.int IntKind.u8 (0 : Int), Value.int IntKind.u8 (0 : Int), Value.int IntKind.u8 (0 : Int), Value.int IntKind.i64 (0 : Int), Value.bool false, Value.int IntKind.u8 (0 : Int), Value.int IntKind.u8 (0 : Int), Value.int IntKind.u8 (0 : Int), Value.int IntKind.u8 (0 : Int), Value.int IntKind.u8 (0 : Int), Value.int IntKind.u8 (0 : Int), Value.int IntKind.u8 (0 : Int), Value.int IntKind.u8 (0 : Int), Value.int IntKind.u8 (0 : Int), Value.int IntKind.u8 (0 : Int), Value.int IntKind.u8 (0 : Int), Value.int IntKind.u8 (0 : Int), Value.int IntKind.u8 (0 : Int), Value.int IntKind.u8 (0 : Int), Value.int IntKind.u8 (0 : Int), Value.int IntKind.u8 (0 : Int), Value.int IntKind.u8 (0 : Int), Value.int IntKind.u8 (0 : Int), Value.int IntKind.u8 (0 : Int), Value.int IntKind.u8 (0 : Int), Value.int IntKind.u8 (0 : Int), Value.int IntKind.u8 (0 : Int), Value.int IntKind.u8 (0 : Int), Value.int IntKind.u8 (0 : Int), Value.int IntKind.u8 (0 : Int), Value.int IntKind.u8 (0 : Int), Value.int IntKind.u8 (0 : Int), Value.int IntKind.u8 (0 : Int), Value.int IntKind.u8 (0 : Int), Value.int IntKind.u8 (0 : Int), Value.int IntKind.u8 (0 : Int), Value.int IntKind.u8 (0 : Int), Value.int IntKind.i64 (0 : Int), Value.int IntKind.i64 (0 : Int), Value.int IntKind.i64 (0 : Int), Value.int IntKind.i64 (0 : Int), Value.int IntKind.i64 (0 : Int), Value.slice none 0 0, Value.slice none 0 0, Value.int IntKind.u8 (0 : Int), Value.int IntKind.u8 (0 : Int), Value.int IntKind.u8 (0 : Int), Value.int IntKind.u8 (0 : Int), Value.int IntKind.u8 (0 : Int), Value.int IntKind.u8 (0 : Int), Value.int IntKind.u8 (0 : Int), Value.int IntKind.u8 (0 : Int), Value.int IntKind.u8 (0 : Int), Value.int IntKind.u8 (0 : Int), Value.int IntKind.u8 (0 : Int), Value.int IntKind.u8 (0 : Int), Value.int IntKind.u8 (0 : Int), Value.int IntKind.u8 (0 : Int), Value.int IntKind.u8 (0 : Int), Value.int IntKind.u8 (0 : Int), Value.int IntKind.i64 (0 : Int), Value.int IntKind.u8 (0 : Int), Value.int IntKind.u8 (0 : Int), Value.int IntKind.u8 (0 : Int), Value.int IntKind.u8 (0 : Int), Value.int IntKind.u8 (0 : Int), Value.int IntKind.u8 (0 : Int), Value.int IntKind.u8 (0 : Int), Value.int IntKind.u8 (0 : Int), Value.int IntKind.u8 (0 : Int), Value.int IntKind.u8 (0 : Int), Value.int IntKind.u8 (0 : Int), Value.int IntKind.u8 (0 : Int), Value.int IntKind.u8 (0 : Int), Value.int IntKind.u8 (0 : Int), Value.int IntKind.u8 (0 : Int), Value.int IntKind.u8 (0 : Int), Value.slice none 0 0, Value.int IntKind.i64 (0 : Int), Value.int IntKind.i64 (0 : Int), Value.slice none 0 0] := by kernel_rfl
theorem tab.a151 : SL.tagg Try.prog 151 = some true := by kernel_rfl
theorem tab.l151 : SL.tlit Try.prog 151 = some none := by kernel_rfl
theorem tab.s162 : SL.tsz Try.prog 162 = some 5 := by kernel_rfl
theorem tab.z162 : SL.tzero Try.prog 162 = some [Value.bool false, Value.bool false, Value.slice none 0 0, Value.bool false, Value.slice none 0 0] := by kernel_rfl
theorem tab.a162 : SL.tagg Try.prog 162 = some true := by kernel_rfl
theorem tab.l162 : SL.tlit Try.prog 162 = some none := by kernel_rfl
theorem tab.z197 : SL.tzero Try.prog 197 = some [Value.int IntKind.i64 (0 : Int), Value.slice none 0 0, Value.int IntKind.i64 (0 : Int)] := by kernel_rfl
theorem tab.l197 : SL.tlit Try.prog 197 = some none := by kernel_rfl
theorem tab.s204 : SL.tsz Try.prog 204 = some 39 := by kernel_rfl
theorem tab.z204 : SL.tzero Try.prog 204 = some [Value.int IntKind.u8 (0 : Int), Value.int IntKind.u8 (0 : Int), Value.int IntKind.u8 (0 : Int), Value.int IntKind.u8 (0 : Int), Value.int IntKind.u8 (0 : Int), Value.int IntKind.u8 (0 : Int), Value.int IntKind.u8 (0 : Int), Value.int IntKind.u8 (0 : Int), Value.int IntKind.u8 (0 : Int), Value.int IntKind.u8 (0 : Int), Value.int IntKind.u8 (0 : Int), Value.int IntKind.u8 (0 : Int), Value.int IntKind.u8 (0 : Int), Value.int IntKind.u8 (0 : Int), Value.int IntKind.u8 (0 : Int), Value.int IntKind.u8 (0 : Int), Value.bool false, Value.bool false, Value.int IntKind.i64 (0 : Int), Value.int IntKind.i64 (0 : Int), Value.int IntKind.i64 (0 : Int), Value.int IntKind.i64 (0 : Int), Value.int IntKind.u8 (0 : Int), Value.int IntKind.u8 (0 : Int), Value.int IntKind.u8 (0 : Int), Value.int IntKind.u8 (0 : Int), Value.int IntKind.u8 (0 : Int), Value.int IntKind.u8 (0 : Int), Value.int IntKind.u8 (0 : Int), Value.int IntKind.u8 (0 : Int), Value.int IntKind.u8 (0 : Int), Value.int IntKind.u8 (0 : Int), Value.int IntKind.u8 (0 : Int), Value.int IntKind.u8 (0 : Int), Value.int IntKind.u8 (0 : Int), Value.int IntKind.u8 (0 : Int), Value.int IntKind.u8 (0 : Int), Value.int IntKind.u8 (0 : Int), Value.pointer none] := by kernel_rfl
theorem tab.l204 : SL.tlit Try.prog 204 = some none := by kernel_rfl
theorem tab.u210 : Try.prog.underlying 210 = some (TypeDesc.struct #[{ name := "From", type := 135, offset := 0, embedded := false, tag := "", pkgPath := "", byteOffset := 0 }, { name := "To", type := 135, offset := 2, embedded := false, tag := "", pkgPath := "", byteOffset := 16 }, { name := "N", type := 2, offset := 4, embedded := false, tag := "", pkgPath := "", byteOffset := 32 }, { name := "Text", type := 35, offset := 5, embedded := false, tag := "", pkgPath := "", byteOffset := 40 }]) := by kernel_rfl
theorem tab.s210 : SL.tsz Try.prog 210 = some 6 := by kernel_rfl
theorem tab.z210 : SL.tzero Try.prog 210 = some [Value.int IntKind.i64 (0 : Int), Value.int IntKind.i64 (0 : Int), Value.int IntKind.i64 (0 : Int), Value.int IntKind.i64 (0 : Int), Value.int IntKind.i64 (0 : Int), Value.slice none 0 0] := by kernel_rfl
theorem tab.l210 : SL.tlit Try.prog 210 = some none := by kernel_rfl
theorem tab.u214 : Try.prog.underlying 214 = some (TypeDesc.struct #[{ name := "Mine", type := 135, offset := 0, embedded := false, tag := "", pkgPath := "", byteOffset := 0 }, { name := "Seen", type := 135, offset := 2, embedded := false, tag := "", pkgPath := "", byteOffset := 16 }, { name := "ID", type := 23, offset := 4, embedded := false, tag := "", pkgPath := "", byteOffset := 32 }]) := by kernel_rfl
theorem tab.s214 : SL.tsz Try.prog 214 = some 20 := by kernel_rfl
theorem tab.z214 : SL.tzero Try.prog 214 = some [Value.int IntKind.i64 (0 : Int), Value.int IntKind.i64 (0 : Int), Value.int IntKind.i64 (0 : Int), Value.int IntKind.i64 (0 : Int), Value.int IntKind.u8 (0 : Int), Value.int IntKind.u8 (0 : Int), Value.int IntKind.u8 (0 : Int), Value.int IntKind.u8 (0 : Int), Value.int IntKind.u8 (0 : Int), Value.int IntKind.u8 (0 : Int), Value.int IntKind.u8 (0 : Int), Value.int IntKind.u8 (0 : Int), Value.int IntKind.u8 (0 : Int), Value.int IntKind.u8 (0 : Int), Value.int IntKind.u8 (0 : Int), Value.int IntKind.u8 (0 : Int), Value.int IntKind.u8 (0 : Int), Value.int IntKind.u8 (0 : Int), Value.int IntKind.u8 (0 : Int), Value.int IntKind.u8 (0 : Int)] := by kernel_rfl
theorem tab.a214 : SL.tagg Try.prog 214 = some true := by kernel_rfl
theorem tab.l214 : SL.tlit Try.prog 214 = some none := by kernel_rfl
theorem tab.u218 : Try.prog.underlying 218 = some (TypeDesc.struct #[{ name := "From", type := 135, offset := 0, embedded := false, tag := "", pkgPath := "", byteOffset := 0 }, { name := "To", type := 135, offset := 2, embedded := false, tag := "", pkgPath := "", byteOffset := 16 }, { name := "N", type := 2, offset := 4, embedded := false, tag := "", pkgPath := "", byteOffset := 32 }]) := by kernel_rfl
theorem tab.s218 : SL.tsz Try.prog 218 = some 5 := by kernel_rfl
theorem tab.z218 : SL.tzero Try.prog 218 = some [Value.int IntKind.i64 (0 : Int), Value.int IntKind.i64 (0 : Int), Value.int IntKind.i64 (0 : Int), Value.int IntKind.i64 (0 : Int), Value.int IntKind.i64 (0 : Int)] := by kernel_rfl
theorem tab.l218 : SL.tlit Try.prog 218 = some none := by kernel_rfl
theorem tab.f130x0 : SL.tfield Try.prog 130 0 = some (123, 0, 2) := by kernel_rfl
theorem tab.f130x1 : SL.tfield Try.prog 130 1 = some (125, 2, 2) := by kernel_rfl
theorem tab.f130x2 : SL.tfield Try.prog 130 2 = some (126, 4, 2) := by kernel_rfl
theorem tab.f130x3 : SL.tfield Try.prog 130 3 = some (128, 6, 2) := by kernel_rfl
theorem tab.f130x4 : SL.tfield Try.prog 130 4 = some (128, 8, 2) := by kernel_rfl
theorem tab.f132x0 : SL.tfield Try.prog 132 0 = some (3, 0, 1) := by kernel_rfl
theorem tab.f132x1 : SL.tfield Try.prog 132 1 = some (3, 1, 1) := by kernel_rfl
theorem tab.f132x2 : SL.tfield Try.prog 132 2 = some (3, 2, 1) := by kernel_rfl
theorem tab.f132x3 : SL.tfield Try.prog 132 3 = some (35, 3, 1) := by kernel_rfl
theorem tab.f135x0 : SL.tfield Try.prog 135 0 = some (2, 0, 1) := by kernel_rfl
theorem tab.f135x1 : SL.tfield Try.prog 135 1 = some (2, 1, 1) := by kernel_rfl
theorem tab.f137x0 : SL.tfield Try.prog 137 0 = some (135, 0, 2) := by kernel_rfl
theorem tab.f137x1 : SL.tfield Try.prog 137 1 = some (135, 2, 2) := by kernel_rfl
theorem tab.f137x2 : SL.tfield Try.prog 137 2 = some (9, 4, 1) := by kernel_rfl
theorem tab.f151x0 : SL.tfield Try.prog 151 0 = some (3, 0, 1) := by kernel_rfl
theorem tab.f151x3 : SL.tfield Try.prog 151 3 = some (23, 19, 16) := by kernel_rfl
theorem tab.f151x5 : SL.tfield Try.prog 151 5 = some (2, 51, 1) := by kernel_rfl
theorem tab.f151x6 : SL.tfield Try.prog 151 6 = some (135, 52, 2) := by kernel_rfl
theorem tab.f151x7 : SL.tfield Try.prog 151 7 = some (135, 54, 2) := by kernel_rfl
theorem tab.f151x13 : SL.tfield Try.prog 151 13 = some (35, 94, 1) := by kernel_rfl
theorem tab.f162x0 : SL.tfield Try.prog 162 0 = some (4, 0, 1) := by kernel_rfl
theorem tab.f162x1 : SL.tfield Try.prog 162 1 = some (4, 1, 1) := by kernel_rfl
theorem tab.f162x2 : SL.tfield Try.prog 162 2 = some (35, 2, 1) := by kernel_rfl
theorem tab.f162x3 : SL.tfield Try.prog 162 3 = some (4, 3, 1) := by kernel_rfl
theorem tab.f162x4 : SL.tfield Try.prog 162 4 = some (124, 4, 1) := by kernel_rfl
theorem tab.f197x0 : SL.tfield Try.prog 197 0 = some (2, 0, 1) := by kernel_rfl
theorem tab.f197x1 : SL.tfield Try.prog 197 1 = some (44, 1, 1) := by kernel_rfl
theorem tab.f197x2 : SL.tfield Try.prog 197 2 = some (2, 2, 1) := by kernel_rfl
theorem tab.f204x0 : SL.tfield Try.prog 204 0 = some (23, 0, 16) := by kernel_rfl
theorem tab.f204x1 : SL.tfield Try.prog 204 1 = some (4, 16, 1) := by kernel_rfl
theorem tab.f204x2 : SL.tfield Try.prog 204 2 = some (4, 17, 1) := by kernel_rfl
theorem tab.f204x3 : SL.tfield Try.prog 204 3 = some (135, 18, 2) := by kernel_rfl
theorem tab.f204x4 : SL.tfield Try.prog 204 4 = some (135, 20, 2) := by kernel_rfl
theorem tab.f204x5 : SL.tfield Try.prog 204 5 = some (23, 22, 16) := by kernel_rfl
theorem tab.f204x6 : SL.tfield Try.prog 204 6 = some (50, 38, 1) := by kernel_rfl
theorem tab.f210x0 : SL.tfield Try.prog 210 0 = some (135, 0, 2) := by kernel_rfl
theorem tab.f210x1 : SL.tfield Try.prog 210 1 = some (135, 2, 2) := by kernel_rfl
theorem tab.f210x2 : SL.tfield Try.prog 210 2 = some (2, 4, 1) := by kernel_rfl
theorem tab.f210x3 : SL.tfield Try.prog 210 3 = some (35, 5, 1) := by kernel_rfl
theorem tab.f214x0 : SL.tfield Try.prog 214 0 = some (135, 0, 2) := by kernel_rfl
theorem tab.f214x1 : SL.tfield Try.prog 214 1 = some (135, 2, 2) := by kernel_rfl
theorem tab.f214x2 : SL.tfield Try.prog 214 2 = some (23, 4, 16) := by kernel_rfl
theorem tab.f218x0 : SL.tfield Try.prog 218 0 = some (135, 0, 2) := by kernel_rfl
theorem tab.f218x1 : SL.tfield Try.prog 218 1 = some (135, 2, 2) := by kernel_rfl
theorem tab.f218x2 : SL.tfield Try.prog 218 2 = some (2, 4, 1) := by kernel_rfl
end Go.Proofs
