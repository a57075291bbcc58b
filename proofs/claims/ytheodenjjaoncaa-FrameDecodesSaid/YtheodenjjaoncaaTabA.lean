/- Contracts of functions that the laws reach, on abstract values, and what they need: no conditions but those that each theorem states. -/
import Derived.Test.YtheodenjjaoncaaProg
import Derived.KernelRfl
import Derived.Test.YtheodenjjaoncaaSlM
set_option linter.unusedVariables false
set_option linter.unusedSimpArgs false
set_option linter.defProp false
namespace Go.Proofs
open Go
theorem tab.u2 : Try.prog.underlying 2 = some (TypeDesc.int IntKind.i64) := by kernel_rfl
theorem tab.s2 : SL.tsz Try.prog 2 = some 1 := by kernel_rfl
theorem tab.z2 : SL.tzero Try.prog 2 = some [Value.int IntKind.i64 (0 : Int)] := by kernel_rfl
theorem tab.a2 : SL.tagg Try.prog 2 = some false := by kernel_rfl
theorem tab.u3 : Try.prog.underlying 3 = some (TypeDesc.int IntKind.i64) := by kernel_rfl
theorem tab.s3 : SL.tsz Try.prog 3 = some 1 := by kernel_rfl
theorem tab.b3 : SL.tby Try.prog 3 = some 8 := by kernel_rfl
theorem tab.z3 : SL.tzero Try.prog 3 = some [Value.int IntKind.i64 (0 : Int)] := by kernel_rfl
theorem tab.a3 : SL.tagg Try.prog 3 = some false := by kernel_rfl
theorem tab.u4 : Try.prog.underlying 4 = some TypeDesc.bool := by kernel_rfl
theorem tab.s4 : SL.tsz Try.prog 4 = some 1 := by kernel_rfl
theorem tab.z4 : SL.tzero Try.prog 4 = some [Value.bool false] := by kernel_rfl
theorem tab.a4 : SL.tagg Try.prog 4 = some false := by kernel_rfl
theorem tab.u5 : Try.prog.underlying 5 = some (TypeDesc.int IntKind.u8) := by kernel_rfl
theorem tab.s5 : SL.tsz Try.prog 5 = some 1 := by kernel_rfl
theorem tab.b5 : SL.tby Try.prog 5 = some 1 := by kernel_rfl
theorem tab.z5 : SL.tzero Try.prog 5 = some [Value.int IntKind.u8 (0 : Int)] := by kernel_rfl
theorem tab.a5 : SL.tagg Try.prog 5 = some false := by kernel_rfl
theorem tab.u9 : Try.prog.underlying 9 = some TypeDesc.string := by kernel_rfl
theorem tab.u20 : Try.prog.underlying 20 = some (TypeDesc.interface #[]) := by kernel_rfl
theorem tab.u23 : Try.prog.underlying 23 = some (TypeDesc.array 16 5) := by kernel_rfl
theorem tab.s23 : SL.tsz Try.prog 23 = some 16 := by kernel_rfl
theorem tab.b23 : SL.tby Try.prog 23 = some 16 := by kernel_rfl
theorem tab.z23 : SL.tzero Try.prog 23 = some [Value.int IntKind.u8 (0 : Int), Value.int IntKind.u8 (0 : Int), Value.int IntKind.u8 (0 : Int), Value.int IntKind.u8 (0 : Int), Value.int IntKind.u8 (0 : Int), Value.int IntKind.u8 (0 : Int), Value.int IntKind.u8 (0 : Int), Value.int IntKind.u8 (0 : Int), Value.int IntKind.u8 (0 : Int), Value.int IntKind.u8 (0 : Int), Value.int IntKind.u8 (0 : Int), Value.int IntKind.u8 (0 : Int), Value.int IntKind.u8 (0 : Int), Value.int IntKind.u8 (0 : Int), Value.int IntKind.u8 (0 : Int), Value.int IntKind.u8 (0 : Int)] := by kernel_rfl
theorem tab.a23 : SL.tagg Try.prog 23 = some true := by kernel_rfl
theorem tab.u35 : Try.prog.underlying 35 = some (TypeDesc.slice 5) := by kernel_rfl
theorem tab.s35 : SL.tsz Try.prog 35 = some 1 := by kernel_rfl
theorem tab.a35 : SL.tagg Try.prog 35 = some false := by kernel_rfl
theorem tab.u36 : Try.prog.underlying 36 = some (TypeDesc.int IntKind.u64) := by kernel_rfl
theorem tab.s36 : SL.tsz Try.prog 36 = some 1 := by kernel_rfl
theorem tab.a36 : SL.tagg Try.prog 36 = some false := by kernel_rfl
theorem tab.u37 : Try.prog.underlying 37 = some (TypeDesc.int IntKind.i64) := by kernel_rfl
theorem tab.s37 : SL.tsz Try.prog 37 = some 1 := by kernel_rfl
theorem tab.z37 : SL.tzero Try.prog 37 = some [Value.int IntKind.i64 (0 : Int)] := by kernel_rfl
theorem tab.a37 : SL.tagg Try.prog 37 = some false := by kernel_rfl
theorem tab.u43 : Try.prog.underlying 43 = some (TypeDesc.slice 36) := by kernel_rfl
theorem tab.u69 : Try.prog.underlying 69 = some (TypeDesc.slice 2) := by kernel_rfl
theorem tab.u79 : Try.prog.underlying 79 = some (TypeDesc.slice 23) := by kernel_rfl
theorem tab.s79 : SL.tsz Try.prog 79 = some 1 := by kernel_rfl
theorem tab.a79 : SL.tagg Try.prog 79 = some false := by kernel_rfl
theorem tab.u114 : Try.prog.underlying 114 = some (TypeDesc.array 3 23) := by kernel_rfl
theorem tab.l114 : SL.tlit Try.prog 114 = some (some 16) := by kernel_rfl
theorem tab.u119 : Try.prog.underlying 119 = some (TypeDesc.slice 132) := by kernel_rfl
theorem tab.u120 : Try.prog.underlying 120 = some (TypeDesc.pointer 130) := by kernel_rfl
theorem tab.u121 : Try.prog.underlying 121 = some (TypeDesc.pointer 204) := by kernel_rfl
theorem tab.u135 : Try.prog.underlying 135 = some (TypeDesc.struct #[{ name := "Inc", type := 2, offset := 0, embedded := false, tag := "", pkgPath := "", byteOffset := 0 }, { name := "N", type := 2, offset := 1, embedded := false, tag := "", pkgPath := "", byteOffset := 8 }]) := by kernel_rfl
theorem tab.s135 : SL.tsz Try.prog 135 = some 2 := by kernel_rfl
theorem tab.z135 : SL.tzero Try.prog 135 = some [Value.int IntKind.i64 (0 : Int), Value.int IntKind.i64 (0 : Int)] := by kernel_rfl
theorem tab.a135 : SL.tagg Try.prog 135 = some true := by kernel_rfl
theorem tab.l135 : SL.tlit Try.prog 135 = some none := by kernel_rfl
theorem tab.u144 : Try.prog.underlying 144 = some (TypeDesc.struct #[{ name := "Who", type := 23, offset := 0, embedded := false, tag := "", pkgPath := "", byteOffset := 0 }, { name := "N", type := 2, offset := 16, embedded := false, tag := "", pkgPath := "", byteOffset := 16 }]) := by kernel_rfl
theorem tab.s144 : SL.tsz Try.prog 144 = some 17 := by kernel_rfl
theorem tab.z144 : SL.tzero Try.prog 144 = some [Value.int IntKind.u8 (0 : Int), Value.int IntKind.u8 (0 : Int), Value.int IntKind.u8 (0 : Int), Value.int IntKind.u8 (0 : Int), Value.int IntKind.u8 (0 : Int), Value.int IntKind.u8 (0 : Int), Value.int IntKind.u8 (0 : Int), Value.int IntKind.u8 (0 : Int), Value.int IntKind.u8 (0 : Int), Value.int IntKind.u8 (0 : Int), Value.int IntKind.u8 (0 : Int), Value.int IntKind.u8 (0 : Int), Value.int IntKind.u8 (0 : Int), Value.int IntKind.u8 (0 : Int), Value.int IntKind.u8 (0 : Int), Value.int IntKind.u8 (0 : Int), Value.int IntKind.i64 (0 : Int)] := by kernel_rfl
theorem tab.a144 : SL.tagg Try.prog 144 = some true := by kernel_rfl
theorem tab.l144 : SL.tlit Try.prog 144 = some none := by kernel_rfl
theorem tab.u145 : Try.prog.underlying 145 = some (TypeDesc.slice 3) := by kernel_rfl
theorem tab.s145 : SL.tsz Try.prog 145 = some 1 := by kernel_rfl
theorem tab.a145 : SL.tagg Try.prog 145 = some false := by kernel_rfl
theorem tab.u147 : Try.prog.underlying 147 = some (TypeDesc.struct #[{ name := "N", type := 2, offset := 0, embedded := false, tag := "", pkgPath := "", byteOffset := 0 }, { name := "Who", type := 23, offset := 1, embedded := false, tag := "", pkgPath := "", byteOffset := 8 }]) := by kernel_rfl
theorem tab.s147 : SL.tsz Try.prog 147 = some 17 := by kernel_rfl
theorem tab.z147 : SL.tzero Try.prog 147 = some [Value.int IntKind.i64 (0 : Int), Value.int IntKind.u8 (0 : Int), Value.int IntKind.u8 (0 : Int), Value.int IntKind.u8 (0 : Int), Value.int IntKind.u8 (0 : Int), Value.int IntKind.u8 (0 : Int), Value.int IntKind.u8 (0 : Int), Value.int IntKind.u8 (0 : Int), Value.int IntKind.u8 (0 : Int), Value.int IntKind.u8 (0 : Int), Value.int IntKind.u8 (0 : Int), Value.int IntKind.u8 (0 : Int), Value.int IntKind.u8 (0 : Int), Value.int IntKind.u8 (0 : Int), Value.int IntKind.u8 (0 : Int), Value.int IntKind.u8 (0 : Int), Value.int IntKind.u8 (0 : Int)] := by kernel_rfl
theorem tab.a147 : SL.tagg Try.prog 147 = some true := by kernel_rfl
theorem tab.l147 : SL.tlit Try.prog 147 = some none := by kernel_rfl
theorem tab.s149 : SL.tsz Try.prog 149 = some 34 := by kernel_rfl
theorem tab.z149 : SL.tzero Try.prog 149 = some [Value.int IntKind.u8 (0 : Int), Value.int IntKind.u8 (0 : Int), Value.int IntKind.u8 (0 : Int), Value.int IntKind.u8 (0 : Int), Value.int IntKind.u8 (0 : Int), Value.int IntKind.u8 (0 : Int), Value.int IntKind.u8 (0 : Int), Value.int IntKind.u8 (0 : Int), Value.int IntKind.u8 (0 : Int), Value.int IntKind.u8 (0 : Int), Value.int IntKind.u8 (0 : Int), Value.int IntKind.u8 (0 : Int), Value.int IntKind.u8 (0 : Int), Value.int IntKind.u8 (0 : Int), Value.int IntKind.u8 (0 : Int), Value.int IntKind.u8 (0 : Int), Value.int IntKind.i64 (0 : Int), Value.int IntKind.u8 (0 : Int), Value.int IntKind.u8 (0 : Int), Value.int IntKind.u8 (0 : Int), Value.int IntKind.u8 (0 : Int), Value.int IntKind.u8 (0 : Int), Value.int IntKind.u8 (0 : Int), Value.int IntKind.u8 (0 : Int), Value.int IntKind.u8 (0 : Int), Value.int IntKind.u8 (0 : Int), Value.int IntKind.u8 (0 : Int), Value.int IntKind.u8 (0 : Int), Value.int IntKind.u8 (0 : Int), Value.int IntKind.u8 (0 : Int), Value.int IntKind.u8 (0 : Int), Value.int IntKind.u8 (0 : Int), Value.int IntKind.u8 (0 : Int), Value.slice none 0 0] := by kernel_rfl
theorem tab.a149 : SL.tagg Try.prog 149 = some true := by kernel_rfl
theorem tab.l149 : SL.tlit Try.prog 149 = some none := by kernel_rfl
theorem tab.s151 : SL.tsz Try.prog 151 = some 95 := by kernel_rfl
theorem tab.z151 : SL.tzero Try.prog 151 = some [Value.int IntKind.i64 (0 : Int), Value.int IntKind.u8 (0 : Int), Value.int IntKind.u8 (0 : Int), Value.int IntKind.u8 (0 : Int), Value.int IntKind.u8 (0 : Int), Value.int IntKind.u8 (0 : Int), Value.int IntKind.u8 (0 : Int), Value.int IntKind.u8 (0 : Int), Value.int IntKind.u8 (0 : Int), Value.int IntKind.u8 (0 : Int), Value.int IntKind.u8 (0 : Int), Value.int IntKind.u8 (0 : Int), Value.int IntKind.u8 (0 : Int), Value.int IntKind.u8 (0 : Int), Value.int IntKind.u8 (0 : Int), Value.int IntKind.u8 (0 : Int), Value.int IntKind.u8 (0 : Int), Value.int IntKind.i64 (0 : Int), Value.bool false, Value.int IntKind.u8 (0 : Int), Value.int IntKind.u8 (0 : Int), Value.int IntKind.u8 (0 : Int), Value.int IntKind.u8 (0 : Int), Value.int IntKind.u8 (0 : Int), Value.int IntKind.u8 (0 : Int), Value.int IntKind.u8 (0 : Int), Value.int IntKind.u8 (0 : Int), Value.int IntKind.u8 (0 : Int), Value.int IntKind.u8 (0 : Int), Value.int IntKind.u8 (0 : Int), Value.int IntKind.u8 (0 : Int), Value.int IntKind.u8 (0 : Int), Value.int IntKind.u8 (0 : Int), Value.int IntKind.u8 (0 : Int), Value.int IntKind.u8 (0 : Int), Value.int IntKind.u8 (0 : Int), Value.int IntKind.u8 (0 : Int), Value.int IntKind.u8 (0 : Int), Value.int IntKind.u8 (0 : Int), Value.int IntKind.u8 (0 : Int), Value.int IntKind.u8 (0 : Int), Value.int IntKind.u8 (0 : Int), Value.int IntKind.u8 (0 : Int), Value.int IntKind.u8 (0 : Int), Value.int IntKind.u8 (0 : Int), Value.int IntKind.u8 (0 : Int), Value.int IntKind.u8 (0 : Int), Value.int IntKind.u8 (0 : Int), Value.int IntKind.u8 (0 : Int), Value.int IntKind.u8 (0 : Int), Value.int IntKind.u8 (0 : Int), Value.int IntKind.i64 (0 : Int), Value.int IntKind.i64 (0 : Int), Value.int IntKind.i64 (0 : Int), Value.int IntKind.i64 (0 : Int), Value.int IntKind.i64 (0 : Int), Value.slice none 0 0, Value.slice none 0 0, Value.int IntKind.u8 (0 : Int), Value.int IntKind.u8 (0 : Int), Value.int IntKind.u8 (0 : Int), Value.int IntKind.u8 (0 : Int), Value.int IntKind.u8 (0 : Int), Value.int IntKind.u8 (0 : Int), Value.int IntKind.u8 (0 : Int), Value.int IntKind.u8 (0 : Int), Value.int IntKind.u8 (0 : Int), Value.int IntKind.u8 (0 : Int), Value.int IntKind.u8 (0 : Int), Value.int IntKind.u8 (0 : Int), Value.int IntKind.u8 (0 : Int), Value.int IntKind.u8 (0 : Int), Value.int IntKind.u8 (0 : Int), Value.int IntKind.u8 (0 : Int), Value.int IntKind.i64 (0 : Int), Value.int IntKind.u8 (0 : Int), Value.int IntKind.u8 (0 : Int), Value.int IntKind.u8 (0 : Int), Value.int IntKind.u8 (0 : Int), Value.int IntKind.u8 (0 : Int), Value.int IntKind.u8 (0 : Int), Value.int IntKind.u8 (0 : Int), Value.int IntKind.u8 (0 : Int), Value.int IntKind.u8 (0 : Int), Value.int IntKind.u8 (0 : Int), Value.int IntKind.u8 (0 : Int), Value.int IntKind.u8 (0 : Int), Value.int IntKind.u8 (0 : Int), Value.int IntKind.u8 (0 : Int), Value.int IntKind.u8 (0 : Int), Value.int IntKind.u8 (0 : Int), Value.slice none 0 0, Value.int IntKind.i64 (0 : Int), Value.int IntKind.i64 (0 : Int), Value.slice none 0 0] := by kernel_rfl
theorem tab.a151 : SL.tagg Try.prog 151 = some true := by kernel_rfl
theorem tab.l151 : SL.tlit Try.prog 151 = some none := by kernel_rfl
theorem tab.u181 : Try.prog.underlying 181 = some (TypeDesc.interface #[("Kind", 173)]) := by kernel_rfl
theorem tab.u210 : Try.prog.underlying 210 = some (TypeDesc.struct #[{ name := "From", type := 135, offset := 0, embedded := false, tag := "", pkgPath := "", byteOffset := 0 }, { name := "To", type := 135, offset := 2, embedded := false, tag := "", pkgPath := "", byteOffset := 16 }, { name := "N", type := 2, offset := 4, embedded := false, tag := "", pkgPath := "", byteOffset := 32 }, { name := "Text", type := 35, offset := 5, embedded := false, tag := "", pkgPath := "", byteOffset := 40 }]) := by kernel_rfl
theorem tab.u214 : Try.prog.underlying 214 = some (TypeDesc.struct #[{ name := "Mine", type := 135, offset := 0, embedded := false, tag := "", pkgPath := "", byteOffset := 0 }, { name := "Seen", type := 135, offset := 2, embedded := false, tag := "", pkgPath := "", byteOffset := 16 }, { name := "ID", type := 23, offset := 4, embedded := false, tag := "", pkgPath := "", byteOffset := 32 }]) := by kernel_rfl
theorem tab.u218 : Try.prog.underlying 218 = some (TypeDesc.struct #[{ name := "From", type := 135, offset := 0, embedded := false, tag := "", pkgPath := "", byteOffset := 0 }, { name := "To", type := 135, offset := 2, embedded := false, tag := "", pkgPath := "", byteOffset := 16 }, { name := "N", type := 2, offset := 4, embedded := false, tag := "", pkgPath := "", byteOffset := 32 }]) := by kernel_rfl
theorem tab.b222 : SL.tby Try.prog 222 = some 24 := by kernel_rfl
theorem tab.z222 : SL.tzero Try.prog 222 = some [Value.slice none 0 0] := by kernel_rfl
theorem tab.l222 : SL.tlit Try.prog 222 = some none := by kernel_rfl
theorem tab.u226 : Try.prog.underlying 226 = some (TypeDesc.struct #[{ name := "P", type := 144, offset := 0, embedded := false, tag := "", pkgPath := "", byteOffset := 0 }, { name := "A", type := 23, offset := 17, embedded := false, tag := "", pkgPath := "", byteOffset := 24 }, { name := "B", type := 23, offset := 33, embedded := false, tag := "", pkgPath := "", byteOffset := 40 }, { name := "Trail", type := 145, offset := 49, embedded := false, tag := "", pkgPath := "", byteOffset := 56 }]) := by kernel_rfl
theorem tab.u230 : Try.prog.underlying 230 = some (TypeDesc.struct #[{ name := "P", type := 144, offset := 0, embedded := false, tag := "", pkgPath := "", byteOffset := 0 }]) := by kernel_rfl
theorem tab.s230 : SL.tsz Try.prog 230 = some 17 := by kernel_rfl
theorem tab.z230 : SL.tzero Try.prog 230 = some [Value.int IntKind.u8 (0 : Int), Value.int IntKind.u8 (0 : Int), Value.int IntKind.u8 (0 : Int), Value.int IntKind.u8 (0 : Int), Value.int IntKind.u8 (0 : Int), Value.int IntKind.u8 (0 : Int), Value.int IntKind.u8 (0 : Int), Value.int IntKind.u8 (0 : Int), Value.int IntKind.u8 (0 : Int), Value.int IntKind.u8 (0 : Int), Value.int IntKind.u8 (0 : Int), Value.int IntKind.u8 (0 : Int), Value.int IntKind.u8 (0 : Int), Value.int IntKind.u8 (0 : Int), Value.int IntKind.u8 (0 : Int), Value.int IntKind.u8 (0 : Int), Value.int IntKind.i64 (0 : Int)] := by kernel_rfl
theorem tab.l230 : SL.tlit Try.prog 230 = some none := by kernel_rfl
theorem tab.u232 : Try.prog.underlying 232 = some (TypeDesc.struct #[{ name := "P", type := 144, offset := 0, embedded := false, tag := "", pkgPath := "", byteOffset := 0 }, { name := "ToA", type := 4, offset := 17, embedded := false, tag := "", pkgPath := "", byteOffset := 24 }]) := by kernel_rfl
theorem tab.s232 : SL.tsz Try.prog 232 = some 18 := by kernel_rfl
theorem tab.z232 : SL.tzero Try.prog 232 = some [Value.int IntKind.u8 (0 : Int), Value.int IntKind.u8 (0 : Int), Value.int IntKind.u8 (0 : Int), Value.int IntKind.u8 (0 : Int), Value.int IntKind.u8 (0 : Int), Value.int IntKind.u8 (0 : Int), Value.int IntKind.u8 (0 : Int), Value.int IntKind.u8 (0 : Int), Value.int IntKind.u8 (0 : Int), Value.int IntKind.u8 (0 : Int), Value.int IntKind.u8 (0 : Int), Value.int IntKind.u8 (0 : Int), Value.int IntKind.u8 (0 : Int), Value.int IntKind.u8 (0 : Int), Value.int IntKind.u8 (0 : Int), Value.int IntKind.u8 (0 : Int), Value.int IntKind.i64 (0 : Int), Value.bool false] := by kernel_rfl
theorem tab.b251 : SL.tby Try.prog 251 = some 32 := by kernel_rfl
theorem tab.z251 : SL.tzero Try.prog 251 = some [Value.slice none 0 0, Value.int IntKind.i64 (0 : Int)] := by kernel_rfl
theorem tab.l251 : SL.tlit Try.prog 251 = some none := by kernel_rfl
theorem tab.b262 : SL.tby Try.prog 262 = some 40 := by kernel_rfl
theorem tab.z262 : SL.tzero Try.prog 262 = some [Value.slice none 0 0, Value.int IntKind.i64 (0 : Int), Value.int IntKind.i64 (0 : Int)] := by kernel_rfl
theorem tab.l262 : SL.tlit Try.prog 262 = some none := by kernel_rfl
theorem tab.f135x0 : SL.tfield Try.prog 135 0 = some (2, 0, 1) := by kernel_rfl
theorem tab.f135x1 : SL.tfield Try.prog 135 1 = some (2, 1, 1) := by kernel_rfl
theorem tab.f144x0 : SL.tfield Try.prog 144 0 = some (23, 0, 16) := by kernel_rfl
theorem tab.f144x1 : SL.tfield Try.prog 144 1 = some (2, 16, 1) := by kernel_rfl
theorem tab.f147x0 : SL.tfield Try.prog 147 0 = some (2, 0, 1) := by kernel_rfl
theorem tab.f147x1 : SL.tfield Try.prog 147 1 = some (23, 1, 16) := by kernel_rfl
theorem tab.f149x0 : SL.tfield Try.prog 149 0 = some (23, 0, 16) := by kernel_rfl
theorem tab.f149x1 : SL.tfield Try.prog 149 1 = some (147, 16, 17) := by kernel_rfl
theorem tab.f149x2 : SL.tfield Try.prog 149 2 = some (35, 33, 1) := by kernel_rfl
theorem tab.f151x0 : SL.tfield Try.prog 151 0 = some (3, 0, 1) := by kernel_rfl
theorem tab.f151x1 : SL.tfield Try.prog 151 1 = some (144, 1, 17) := by kernel_rfl
theorem tab.f151x2 : SL.tfield Try.prog 151 2 = some (4, 18, 1) := by kernel_rfl
theorem tab.f151x3 : SL.tfield Try.prog 151 3 = some (23, 19, 16) := by kernel_rfl
theorem tab.f151x4 : SL.tfield Try.prog 151 4 = some (23, 35, 16) := by kernel_rfl
theorem tab.f151x5 : SL.tfield Try.prog 151 5 = some (2, 51, 1) := by kernel_rfl
theorem tab.f151x6 : SL.tfield Try.prog 151 6 = some (135, 52, 2) := by kernel_rfl
theorem tab.f151x7 : SL.tfield Try.prog 151 7 = some (135, 54, 2) := by kernel_rfl
theorem tab.f151x8 : SL.tfield Try.prog 151 8 = some (145, 56, 1) := by kernel_rfl
theorem tab.f151x9 : SL.tfield Try.prog 151 9 = some (79, 57, 1) := by kernel_rfl
theorem tab.f151x10 : SL.tfield Try.prog 151 10 = some (149, 58, 34) := by kernel_rfl
theorem tab.f151x11 : SL.tfield Try.prog 151 11 = some (3, 92, 1) := by kernel_rfl
theorem tab.f151x12 : SL.tfield Try.prog 151 12 = some (3, 93, 1) := by kernel_rfl
theorem tab.f151x13 : SL.tfield Try.prog 151 13 = some (35, 94, 1) := by kernel_rfl
theorem tab.f222x0 : SL.tfield Try.prog 222 0 = some (35, 0, 1) := by kernel_rfl
theorem tab.f230x0 : SL.tfield Try.prog 230 0 = some (144, 0, 17) := by kernel_rfl
theorem tab.f251x0 : SL.tfield Try.prog 251 0 = some (35, 0, 1) := by kernel_rfl
theorem tab.f251x1 : SL.tfield Try.prog 251 1 = some (3, 1, 1) := by kernel_rfl
theorem tab.f262x0 : SL.tfield Try.prog 262 0 = some (35, 0, 1) := by kernel_rfl
theorem tab.f262x1 : SL.tfield Try.prog 262 1 = some (3, 1, 1) := by kernel_rfl
theorem tab.f262x2 : SL.tfield Try.prog 262 2 = some (37, 2, 1) := by kernel_rfl
end Go.Proofs
