/- The types of the program, as the layer asks them (printed by a small program). -/
import Derived.Test.YtheodenjjaoncaaProg
import Derived.KernelRfl
import Derived.Test.YtheodenjjaoncaaSlM
set_option linter.unusedVariables false
set_option linter.unusedSimpArgs false
namespace Go.Proofs
open Go

theorem tab.u2 : Try.prog.underlying 2 = some (TypeDesc.int IntKind.i64) := by kernel_rfl
theorem tab.s2 : SL.tsz Try.prog 2 = some 1 := by kernel_rfl
theorem tab.b2 : SL.tby Try.prog 2 = some 8 := by kernel_rfl
theorem tab.z2 : SL.tzero Try.prog 2 = some [Value.int IntKind.i64 (0 : Int)] := by kernel_rfl
theorem tab.a2 : SL.tagg Try.prog 2 = some false := by kernel_rfl
theorem tab.u3 : Try.prog.underlying 3 = some (TypeDesc.int IntKind.i64) := by kernel_rfl
theorem tab.s3 : SL.tsz Try.prog 3 = some 1 := by kernel_rfl
theorem tab.b3 : SL.tby Try.prog 3 = some 8 := by kernel_rfl
theorem tab.z3 : SL.tzero Try.prog 3 = some [Value.int IntKind.i64 (0 : Int)] := by kernel_rfl
theorem tab.a3 : SL.tagg Try.prog 3 = some false := by kernel_rfl
theorem tab.u4 : Try.prog.underlying 4 = some TypeDesc.bool := by kernel_rfl
theorem tab.s4 : SL.tsz Try.prog 4 = some 1 := by kernel_rfl
theorem tab.b4 : SL.tby Try.prog 4 = some 1 := by kernel_rfl
theorem tab.z4 : SL.tzero Try.prog 4 = some [Value.bool false] := by kernel_rfl
theorem tab.a4 : SL.tagg Try.prog 4 = some false := by kernel_rfl
theorem tab.u5 : Try.prog.underlying 5 = some (TypeDesc.int IntKind.u8) := by kernel_rfl
theorem tab.s5 : SL.tsz Try.prog 5 = some 1 := by kernel_rfl
theorem tab.b5 : SL.tby Try.prog 5 = some 1 := by kernel_rfl
theorem tab.z5 : SL.tzero Try.prog 5 = some [Value.int IntKind.u8 (0 : Int)] := by kernel_rfl
theorem tab.a5 : SL.tagg Try.prog 5 = some false := by kernel_rfl
theorem tab.u9 : Try.prog.underlying 9 = some TypeDesc.string := by kernel_rfl
theorem tab.s9 : SL.tsz Try.prog 9 = some 1 := by kernel_rfl
theorem tab.b9 : SL.tby Try.prog 9 = some 16 := by kernel_rfl
theorem tab.z9 : SL.tzero Try.prog 9 = some [Value.string { data := #[] }] := by kernel_rfl
theorem tab.a9 : SL.tagg Try.prog 9 = some false := by kernel_rfl
theorem tab.u20 : Try.prog.underlying 20 = some (TypeDesc.interface #[]) := by kernel_rfl
theorem tab.s20 : SL.tsz Try.prog 20 = some 1 := by kernel_rfl
theorem tab.b20 : SL.tby Try.prog 20 = some 16 := by kernel_rfl
theorem tab.z20 : SL.tzero Try.prog 20 = some [Value.nilIface] := by kernel_rfl
theorem tab.a20 : SL.tagg Try.prog 20 = some false := by kernel_rfl
theorem tab.u21 : Try.prog.underlying 21 = some (TypeDesc.int IntKind.i32) := by kernel_rfl
theorem tab.s21 : SL.tsz Try.prog 21 = some 1 := by kernel_rfl
theorem tab.b21 : SL.tby Try.prog 21 = some 4 := by kernel_rfl
theorem tab.z21 : SL.tzero Try.prog 21 = some [Value.int IntKind.i32 (0 : Int)] := by kernel_rfl
theorem tab.a21 : SL.tagg Try.prog 21 = some false := by kernel_rfl
theorem tab.u23 : Try.prog.underlying 23 = some (TypeDesc.array 16 5) := by kernel_rfl
theorem tab.s23 : SL.tsz Try.prog 23 = some 16 := by kernel_rfl
theorem tab.b23 : SL.tby Try.prog 23 = some 16 := by kernel_rfl
theorem tab.z23 : SL.tzero Try.prog 23 = some [Value.int IntKind.u8 (0 : Int), Value.int IntKind.u8 (0 : Int), Value.int IntKind.u8 (0 : Int), Value.int IntKind.u8 (0 : Int), Value.int IntKind.u8 (0 : Int), Value.int IntKind.u8 (0 : Int), Value.int IntKind.u8 (0 : Int), Value.int IntKind.u8 (0 : Int), Value.int IntKind.u8 (0 : Int), Value.int IntKind.u8 (0 : Int), Value.int IntKind.u8 (0 : Int), Value.int IntKind.u8 (0 : Int), Value.int IntKind.u8 (0 : Int), Value.int IntKind.u8 (0 : Int), Value.int IntKind.u8 (0 : Int), Value.int IntKind.u8 (0 : Int)] := by kernel_rfl
theorem tab.a23 : SL.tagg Try.prog 23 = some true := by kernel_rfl
theorem tab.l23 : SL.tlit Try.prog 23 = some (some 1) := by kernel_rfl
theorem tab.u24 : Try.prog.underlying 24 = some (TypeDesc.slice 26) := by kernel_rfl
theorem tab.s24 : SL.tsz Try.prog 24 = some 1 := by kernel_rfl
theorem tab.b24 : SL.tby Try.prog 24 = some 24 := by kernel_rfl
theorem tab.z24 : SL.tzero Try.prog 24 = some [Value.slice none 0 0] := by kernel_rfl
theorem tab.a24 : SL.tagg Try.prog 24 = some false := by kernel_rfl
theorem tab.u26 : Try.prog.underlying 26 = some (TypeDesc.struct #[{ name := "N", type := 3, offset := 0, embedded := false, tag := "", pkgPath := "", byteOffset := 0 }, { name := "ID", type := 23, offset := 1, embedded := false, tag := "", pkgPath := "", byteOffset := 8 }, { name := "Far", type := 2, offset := 17, embedded := false, tag := "", pkgPath := "", byteOffset := 24 }]) := by kernel_rfl
theorem tab.s26 : SL.tsz Try.prog 26 = some 18 := by kernel_rfl
theorem tab.b26 : SL.tby Try.prog 26 = some 32 := by kernel_rfl
theorem tab.z26 : SL.tzero Try.prog 26 = some [Value.int IntKind.i64 (0 : Int), Value.int IntKind.u8 (0 : Int), Value.int IntKind.u8 (0 : Int), Value.int IntKind.u8 (0 : Int), Value.int IntKind.u8 (0 : Int), Value.int IntKind.u8 (0 : Int), Value.int IntKind.u8 (0 : Int), Value.int IntKind.u8 (0 : Int), Value.int IntKind.u8 (0 : Int), Value.int IntKind.u8 (0 : Int), Value.int IntKind.u8 (0 : Int), Value.int IntKind.u8 (0 : Int), Value.int IntKind.u8 (0 : Int), Value.int IntKind.u8 (0 : Int), Value.int IntKind.u8 (0 : Int), Value.int IntKind.u8 (0 : Int), Value.int IntKind.u8 (0 : Int), Value.int IntKind.i64 (0 : Int)] := by kernel_rfl
theorem tab.a26 : SL.tagg Try.prog 26 = some true := by kernel_rfl
theorem tab.l26 : SL.tlit Try.prog 26 = some none := by kernel_rfl
theorem tab.u28 : Try.prog.underlying 28 = some (TypeDesc.struct #[{ name := "N", type := 3, offset := 0, embedded := false, tag := "", pkgPath := "", byteOffset := 0 }, { name := "ID", type := 23, offset := 1, embedded := false, tag := "", pkgPath := "", byteOffset := 8 }, { name := "Far", type := 2, offset := 17, embedded := false, tag := "", pkgPath := "", byteOffset := 24 }]) := by kernel_rfl
theorem tab.s28 : SL.tsz Try.prog 28 = some 18 := by kernel_rfl
theorem tab.b28 : SL.tby Try.prog 28 = some 32 := by kernel_rfl
theorem tab.z28 : SL.tzero Try.prog 28 = some [Value.int IntKind.i64 (0 : Int), Value.int IntKind.u8 (0 : Int), Value.int IntKind.u8 (0 : Int), Value.int IntKind.u8 (0 : Int), Value.int IntKind.u8 (0 : Int), Value.int IntKind.u8 (0 : Int), Value.int IntKind.u8 (0 : Int), Value.int IntKind.u8 (0 : Int), Value.int IntKind.u8 (0 : Int), Value.int IntKind.u8 (0 : Int), Value.int IntKind.u8 (0 : Int), Value.int IntKind.u8 (0 : Int), Value.int IntKind.u8 (0 : Int), Value.int IntKind.u8 (0 : Int), Value.int IntKind.u8 (0 : Int), Value.int IntKind.u8 (0 : Int), Value.int IntKind.u8 (0 : Int), Value.int IntKind.i64 (0 : Int)] := by kernel_rfl
theorem tab.a28 : SL.tagg Try.prog 28 = some true := by kernel_rfl
theorem tab.l28 : SL.tlit Try.prog 28 = some none := by kernel_rfl
theorem tab.u30 : Try.prog.underlying 30 = some (TypeDesc.slice 28) := by kernel_rfl
theorem tab.s30 : SL.tsz Try.prog 30 = some 1 := by kernel_rfl
theorem tab.b30 : SL.tby Try.prog 30 = some 24 := by kernel_rfl
theorem tab.z30 : SL.tzero Try.prog 30 = some [Value.slice none 0 0] := by kernel_rfl
theorem tab.a30 : SL.tagg Try.prog 30 = some false := by kernel_rfl
theorem tab.u35 : Try.prog.underlying 35 = some (TypeDesc.slice 5) := by kernel_rfl
theorem tab.s35 : SL.tsz Try.prog 35 = some 1 := by kernel_rfl
theorem tab.b35 : SL.tby Try.prog 35 = some 24 := by kernel_rfl
theorem tab.z35 : SL.tzero Try.prog 35 = some [Value.slice none 0 0] := by kernel_rfl
theorem tab.a35 : SL.tagg Try.prog 35 = some false := by kernel_rfl
theorem tab.u36 : Try.prog.underlying 36 = some (TypeDesc.int IntKind.u64) := by kernel_rfl
theorem tab.s36 : SL.tsz Try.prog 36 = some 1 := by kernel_rfl
theorem tab.b36 : SL.tby Try.prog 36 = some 8 := by kernel_rfl
theorem tab.z36 : SL.tzero Try.prog 36 = some [Value.int IntKind.u64 (0 : Int)] := by kernel_rfl
theorem tab.a36 : SL.tagg Try.prog 36 = some false := by kernel_rfl
theorem tab.u37 : Try.prog.underlying 37 = some (TypeDesc.int IntKind.i64) := by kernel_rfl
theorem tab.s37 : SL.tsz Try.prog 37 = some 1 := by kernel_rfl
theorem tab.b37 : SL.tby Try.prog 37 = some 8 := by kernel_rfl
theorem tab.z37 : SL.tzero Try.prog 37 = some [Value.int IntKind.i64 (0 : Int)] := by kernel_rfl
theorem tab.a37 : SL.tagg Try.prog 37 = some false := by kernel_rfl
theorem tab.u43 : Try.prog.underlying 43 = some (TypeDesc.slice 36) := by kernel_rfl
theorem tab.s43 : SL.tsz Try.prog 43 = some 1 := by kernel_rfl
theorem tab.b43 : SL.tby Try.prog 43 = some 24 := by kernel_rfl
theorem tab.z43 : SL.tzero Try.prog 43 = some [Value.slice none 0 0] := by kernel_rfl
theorem tab.a43 : SL.tagg Try.prog 43 = some false := by kernel_rfl
theorem tab.u44 : Try.prog.underlying 44 = some (TypeDesc.slice 35) := by kernel_rfl
theorem tab.s44 : SL.tsz Try.prog 44 = some 1 := by kernel_rfl
theorem tab.b44 : SL.tby Try.prog 44 = some 24 := by kernel_rfl
theorem tab.z44 : SL.tzero Try.prog 44 = some [Value.slice none 0 0] := by kernel_rfl
theorem tab.a44 : SL.tagg Try.prog 44 = some false := by kernel_rfl
theorem tab.u49 : Try.prog.underlying 49 = some (TypeDesc.slice 56) := by kernel_rfl
theorem tab.s49 : SL.tsz Try.prog 49 = some 1 := by kernel_rfl
theorem tab.b49 : SL.tby Try.prog 49 = some 24 := by kernel_rfl
theorem tab.z49 : SL.tzero Try.prog 49 = some [Value.slice none 0 0] := by kernel_rfl
theorem tab.a49 : SL.tagg Try.prog 49 = some false := by kernel_rfl
theorem tab.u50 : Try.prog.underlying 50 = some (TypeDesc.pointer 197) := by kernel_rfl
theorem tab.s50 : SL.tsz Try.prog 50 = some 1 := by kernel_rfl
theorem tab.b50 : SL.tby Try.prog 50 = some 8 := by kernel_rfl
theorem tab.z50 : SL.tzero Try.prog 50 = some [Value.pointer none] := by kernel_rfl
theorem tab.a50 : SL.tagg Try.prog 50 = some false := by kernel_rfl
theorem tab.u52 : Try.prog.underlying 52 = some (TypeDesc.pointer 54) := by kernel_rfl
theorem tab.s52 : SL.tsz Try.prog 52 = some 1 := by kernel_rfl
theorem tab.b52 : SL.tby Try.prog 52 = some 8 := by kernel_rfl
theorem tab.z52 : SL.tzero Try.prog 52 = some [Value.pointer none] := by kernel_rfl
theorem tab.a52 : SL.tagg Try.prog 52 = some false := by kernel_rfl
theorem tab.u54 : Try.prog.underlying 54 = some (TypeDesc.struct #[{ name := "All", type := 44, offset := 0, embedded := false, tag := "", pkgPath := "", byteOffset := 0 }, { name := "Known", type := 2, offset := 1, embedded := false, tag := "", pkgPath := "", byteOffset := 24 }, { name := "Got", type := 2, offset := 2, embedded := false, tag := "", pkgPath := "", byteOffset := 32 }]) := by kernel_rfl
theorem tab.s54 : SL.tsz Try.prog 54 = some 3 := by kernel_rfl
theorem tab.b54 : SL.tby Try.prog 54 = some 40 := by kernel_rfl
theorem tab.z54 : SL.tzero Try.prog 54 = some [Value.slice none 0 0, Value.int IntKind.i64 (0 : Int), Value.int IntKind.i64 (0 : Int)] := by kernel_rfl
theorem tab.a54 : SL.tagg Try.prog 54 = some true := by kernel_rfl
theorem tab.l54 : SL.tlit Try.prog 54 = some none := by kernel_rfl
theorem tab.u56 : Try.prog.underlying 56 = some (TypeDesc.struct #[{ name := "Kind", type := 3, offset := 0, embedded := false, tag := "", pkgPath := "", byteOffset := 0 }, { name := "N", type := 2, offset := 1, embedded := false, tag := "", pkgPath := "", byteOffset := 8 }, { name := "B", type := 35, offset := 2, embedded := false, tag := "", pkgPath := "", byteOffset := 16 }]) := by kernel_rfl
theorem tab.s56 : SL.tsz Try.prog 56 = some 3 := by kernel_rfl
theorem tab.b56 : SL.tby Try.prog 56 = some 40 := by kernel_rfl
theorem tab.z56 : SL.tzero Try.prog 56 = some [Value.int IntKind.i64 (0 : Int), Value.int IntKind.i64 (0 : Int), Value.slice none 0 0] := by kernel_rfl
theorem tab.a56 : SL.tagg Try.prog 56 = some true := by kernel_rfl
theorem tab.l56 : SL.tlit Try.prog 56 = some none := by kernel_rfl
theorem tab.u67 : Try.prog.underlying 67 = some (TypeDesc.slice 72) := by kernel_rfl
theorem tab.s67 : SL.tsz Try.prog 67 = some 1 := by kernel_rfl
theorem tab.b67 : SL.tby Try.prog 67 = some 24 := by kernel_rfl
theorem tab.z67 : SL.tzero Try.prog 67 = some [Value.slice none 0 0] := by kernel_rfl
theorem tab.a67 : SL.tagg Try.prog 67 = some false := by kernel_rfl
theorem tab.u68 : Try.prog.underlying 68 = some (TypeDesc.slice 74) := by kernel_rfl
theorem tab.s68 : SL.tsz Try.prog 68 = some 1 := by kernel_rfl
theorem tab.b68 : SL.tby Try.prog 68 = some 24 := by kernel_rfl
theorem tab.z68 : SL.tzero Try.prog 68 = some [Value.slice none 0 0] := by kernel_rfl
theorem tab.a68 : SL.tagg Try.prog 68 = some false := by kernel_rfl
theorem tab.u69 : Try.prog.underlying 69 = some (TypeDesc.slice 2) := by kernel_rfl
theorem tab.s69 : SL.tsz Try.prog 69 = some 1 := by kernel_rfl
theorem tab.b69 : SL.tby Try.prog 69 = some 24 := by kernel_rfl
theorem tab.z69 : SL.tzero Try.prog 69 = some [Value.slice none 0 0] := by kernel_rfl
theorem tab.a69 : SL.tagg Try.prog 69 = some false := by kernel_rfl
theorem tab.u70 : Try.prog.underlying 70 = some (TypeDesc.slice 9) := by kernel_rfl
theorem tab.s70 : SL.tsz Try.prog 70 = some 1 := by kernel_rfl
theorem tab.b70 : SL.tby Try.prog 70 = some 24 := by kernel_rfl
theorem tab.z70 : SL.tzero Try.prog 70 = some [Value.slice none 0 0] := by kernel_rfl
theorem tab.a70 : SL.tagg Try.prog 70 = some false := by kernel_rfl
theorem tab.u72 : Try.prog.underlying 72 = some (TypeDesc.struct #[{ name := "Kind", type := 3, offset := 0, embedded := false, tag := "", pkgPath := "", byteOffset := 0 }, { name := "I", type := 3, offset := 1, embedded := false, tag := "", pkgPath := "", byteOffset := 8 }]) := by kernel_rfl
theorem tab.s72 : SL.tsz Try.prog 72 = some 2 := by kernel_rfl
theorem tab.b72 : SL.tby Try.prog 72 = some 16 := by kernel_rfl
theorem tab.z72 : SL.tzero Try.prog 72 = some [Value.int IntKind.i64 (0 : Int), Value.int IntKind.i64 (0 : Int)] := by kernel_rfl
theorem tab.a72 : SL.tagg Try.prog 72 = some true := by kernel_rfl
theorem tab.l72 : SL.tlit Try.prog 72 = some none := by kernel_rfl
theorem tab.u74 : Try.prog.underlying 74 = some (TypeDesc.struct #[{ name := "n", type := 2, offset := 0, embedded := false, tag := "", pkgPath := "annulet/annuletlaw08", byteOffset := 0 }, { name := "b", type := 9, offset := 1, embedded := false, tag := "", pkgPath := "annulet/annuletlaw08", byteOffset := 8 }]) := by kernel_rfl
theorem tab.s74 : SL.tsz Try.prog 74 = some 2 := by kernel_rfl
theorem tab.b74 : SL.tby Try.prog 74 = some 24 := by kernel_rfl
theorem tab.z74 : SL.tzero Try.prog 74 = some [Value.int IntKind.i64 (0 : Int), Value.string { data := #[] }] := by kernel_rfl
theorem tab.a74 : SL.tagg Try.prog 74 = some true := by kernel_rfl
theorem tab.l74 : SL.tlit Try.prog 74 = some none := by kernel_rfl
theorem tab.u75 : Try.prog.underlying 75 = some (TypeDesc.int IntKind.u64) := by kernel_rfl
theorem tab.s75 : SL.tsz Try.prog 75 = some 1 := by kernel_rfl
theorem tab.b75 : SL.tby Try.prog 75 = some 8 := by kernel_rfl
theorem tab.z75 : SL.tzero Try.prog 75 = some [Value.int IntKind.u64 (0 : Int)] := by kernel_rfl
theorem tab.a75 : SL.tagg Try.prog 75 = some false := by kernel_rfl
theorem tab.u79 : Try.prog.underlying 79 = some (TypeDesc.slice 23) := by kernel_rfl
theorem tab.s79 : SL.tsz Try.prog 79 = some 1 := by kernel_rfl
theorem tab.b79 : SL.tby Try.prog 79 = some 24 := by kernel_rfl
theorem tab.z79 : SL.tzero Try.prog 79 = some [Value.slice none 0 0] := by kernel_rfl
theorem tab.a79 : SL.tagg Try.prog 79 = some false := by kernel_rfl
theorem tab.u80 : Try.prog.underlying 80 = some (TypeDesc.slice 198) := by kernel_rfl
theorem tab.s80 : SL.tsz Try.prog 80 = some 1 := by kernel_rfl
theorem tab.b80 : SL.tby Try.prog 80 = some 24 := by kernel_rfl
theorem tab.z80 : SL.tzero Try.prog 80 = some [Value.slice none 0 0] := by kernel_rfl
theorem tab.a80 : SL.tagg Try.prog 80 = some false := by kernel_rfl
theorem tab.u81 : Try.prog.underlying 81 = some (TypeDesc.slice 24) := by kernel_rfl
theorem tab.s81 : SL.tsz Try.prog 81 = some 1 := by kernel_rfl
theorem tab.b81 : SL.tby Try.prog 81 = some 24 := by kernel_rfl
theorem tab.z81 : SL.tzero Try.prog 81 = some [Value.slice none 0 0] := by kernel_rfl
theorem tab.a81 : SL.tagg Try.prog 81 = some false := by kernel_rfl
theorem tab.u83 : Try.prog.underlying 83 = some (TypeDesc.struct #[{ name := "IDs", type := 79, offset := 0, embedded := false, tag := "", pkgPath := "", byteOffset := 0 }, { name := "Links", type := 80, offset := 1, embedded := false, tag := "", pkgPath := "", byteOffset := 24 }, { name := "Heard", type := 81, offset := 2, embedded := false, tag := "", pkgPath := "", byteOffset := 48 }]) := by kernel_rfl
theorem tab.s83 : SL.tsz Try.prog 83 = some 3 := by kernel_rfl
theorem tab.b83 : SL.tby Try.prog 83 = some 72 := by kernel_rfl
theorem tab.z83 : SL.tzero Try.prog 83 = some [Value.slice none 0 0, Value.slice none 0 0, Value.slice none 0 0] := by kernel_rfl
theorem tab.a83 : SL.tagg Try.prog 83 = some true := by kernel_rfl
theorem tab.l83 : SL.tlit Try.prog 83 = some none := by kernel_rfl
theorem tab.u84 : Try.prog.underlying 84 = some (TypeDesc.array 6 4) := by kernel_rfl
theorem tab.s84 : SL.tsz Try.prog 84 = some 6 := by kernel_rfl
theorem tab.b84 : SL.tby Try.prog 84 = some 6 := by kernel_rfl
theorem tab.z84 : SL.tzero Try.prog 84 = some [Value.bool false, Value.bool false, Value.bool false, Value.bool false, Value.bool false, Value.bool false] := by kernel_rfl
theorem tab.a84 : SL.tagg Try.prog 84 = some true := by kernel_rfl
theorem tab.l84 : SL.tlit Try.prog 84 = some (some 1) := by kernel_rfl
theorem tab.u85 : Try.prog.underlying 85 = some (TypeDesc.array 6 84) := by kernel_rfl
theorem tab.s85 : SL.tsz Try.prog 85 = some 36 := by kernel_rfl
theorem tab.b85 : SL.tby Try.prog 85 = some 36 := by kernel_rfl
theorem tab.z85 : SL.tzero Try.prog 85 = some [Value.bool false, Value.bool false, Value.bool false, Value.bool false, Value.bool false, Value.bool false, Value.bool false, Value.bool false, Value.bool false, Value.bool false, Value.bool false, Value.bool false, Value.bool false, Value.bool false, Value.bool false, Value.bool false, Value.bool false, Value.bool false, Value.bool false, Value.bool false, Value.bool false, Value.bool false, Value.bool false, Value.bool false, Value.bool false, Value.bool false, Value.bool false, Value.bool false, Value.bool false, Value.bool false, Value.bool false, Value.bool false, Value.bool false, Value.bool false, Value.bool false, Value.bool false] := by kernel_rfl
theorem tab.a85 : SL.tagg Try.prog 85 = some true := by kernel_rfl
theorem tab.l85 : SL.tlit Try.prog 85 = some (some 6) := by kernel_rfl
theorem tab.u103 : Try.prog.underlying 103 = some (TypeDesc.array 2 23) := by kernel_rfl
theorem tab.s103 : SL.tsz Try.prog 103 = some 32 := by kernel_rfl
theorem tab.b103 : SL.tby Try.prog 103 = some 32 := by kernel_rfl
theorem tab.z103 : SL.tzero Try.prog 103 = some [Value.int IntKind.u8 (0 : Int), Value.int IntKind.u8 (0 : Int), Value.int IntKind.u8 (0 : Int), Value.int IntKind.u8 (0 : Int), Value.int IntKind.u8 (0 : Int), Value.int IntKind.u8 (0 : Int), Value.int IntKind.u8 (0 : Int), Value.int IntKind.u8 (0 : Int), Value.int IntKind.u8 (0 : Int), Value.int IntKind.u8 (0 : Int), Value.int IntKind.u8 (0 : Int), Value.int IntKind.u8 (0 : Int), Value.int IntKind.u8 (0 : Int), Value.int IntKind.u8 (0 : Int), Value.int IntKind.u8 (0 : Int), Value.int IntKind.u8 (0 : Int), Value.int IntKind.u8 (0 : Int), Value.int IntKind.u8 (0 : Int), Value.int IntKind.u8 (0 : Int), Value.int IntKind.u8 (0 : Int), Value.int IntKind.u8 (0 : Int), Value.int IntKind.u8 (0 : Int), Value.int IntKind.u8 (0 : Int), Value.int IntKind.u8 (0 : Int), Value.int IntKind.u8 (0 : Int), Value.int IntKind.u8 (0 : Int), Value.int IntKind.u8 (0 : Int), Value.int IntKind.u8 (0 : Int), Value.int IntKind.u8 (0 : Int), Value.int IntKind.u8 (0 : Int), Value.int IntKind.u8 (0 : Int), Value.int IntKind.u8 (0 : Int)] := by kernel_rfl
theorem tab.a103 : SL.tagg Try.prog 103 = some true := by kernel_rfl
theorem tab.l103 : SL.tlit Try.prog 103 = some (some 16) := by kernel_rfl
theorem tab.u114 : Try.prog.underlying 114 = some (TypeDesc.array 3 23) := by kernel_rfl
theorem tab.s114 : SL.tsz Try.prog 114 = some 48 := by kernel_rfl
theorem tab.b114 : SL.tby Try.prog 114 = some 48 := by kernel_rfl
theorem tab.z114 : SL.tzero Try.prog 114 = some [Value.int IntKind.u8 (0 : Int), Value.int IntKind.u8 (0 : Int), Value.int IntKind.u8 (0 : Int), Value.int IntKind.u8 (0 : Int), Value.int IntKind.u8 (0 : Int), Value.int IntKind.u8 (0 : Int), Value.int IntKind.u8 (0 : Int), Value.int IntKind.u8 (0 : Int), Value.int IntKind.u8 (0 : Int), Value.int IntKind.u8 (0 : Int), Value.int IntKind.u8 (0 : Int), Value.int IntKind.u8 (0 : Int), Value.int IntKind.u8 (0 : Int), Value.int IntKind.u8 (0 : Int), Value.int IntKind.u8 (0 : Int), Value.int IntKind.u8 (0 : Int), Value.int IntKind.u8 (0 : Int), Value.int IntKind.u8 (0 : Int), Value.int IntKind.u8 (0 : Int), Value.int IntKind.u8 (0 : Int), Value.int IntKind.u8 (0 : Int), Value.int IntKind.u8 (0 : Int), Value.int IntKind.u8 (0 : Int), Value.int IntKind.u8 (0 : Int), Value.int IntKind.u8 (0 : Int), Value.int IntKind.u8 (0 : Int), Value.int IntKind.u8 (0 : Int), Value.int IntKind.u8 (0 : Int), Value.int IntKind.u8 (0 : Int), Value.int IntKind.u8 (0 : Int), Value.int IntKind.u8 (0 : Int), Value.int IntKind.u8 (0 : Int), Value.int IntKind.u8 (0 : Int), Value.int IntKind.u8 (0 : Int), Value.int IntKind.u8 (0 : Int), Value.int IntKind.u8 (0 : Int), Value.int IntKind.u8 (0 : Int), Value.int IntKind.u8 (0 : Int), Value.int IntKind.u8 (0 : Int), Value.int IntKind.u8 (0 : Int), Value.int IntKind.u8 (0 : Int), Value.int IntKind.u8 (0 : Int), Value.int IntKind.u8 (0 : Int), Value.int IntKind.u8 (0 : Int), Value.int IntKind.u8 (0 : Int), Value.int IntKind.u8 (0 : Int), Value.int IntKind.u8 (0 : Int), Value.int IntKind.u8 (0 : Int)] := by kernel_rfl
theorem tab.a114 : SL.tagg Try.prog 114 = some true := by kernel_rfl
theorem tab.l114 : SL.tlit Try.prog 114 = some (some 16) := by kernel_rfl
theorem tab.u119 : Try.prog.underlying 119 = some (TypeDesc.slice 132) := by kernel_rfl
theorem tab.s119 : SL.tsz Try.prog 119 = some 1 := by kernel_rfl
theorem tab.b119 : SL.tby Try.prog 119 = some 24 := by kernel_rfl
theorem tab.z119 : SL.tzero Try.prog 119 = some [Value.slice none 0 0] := by kernel_rfl
theorem tab.a119 : SL.tagg Try.prog 119 = some false := by kernel_rfl
theorem tab.u120 : Try.prog.underlying 120 = some (TypeDesc.pointer 130) := by kernel_rfl
theorem tab.s120 : SL.tsz Try.prog 120 = some 1 := by kernel_rfl
theorem tab.b120 : SL.tby Try.prog 120 = some 8 := by kernel_rfl
theorem tab.z120 : SL.tzero Try.prog 120 = some [Value.pointer none] := by kernel_rfl
theorem tab.a120 : SL.tagg Try.prog 120 = some false := by kernel_rfl
theorem tab.u121 : Try.prog.underlying 121 = some (TypeDesc.pointer 204) := by kernel_rfl
theorem tab.s121 : SL.tsz Try.prog 121 = some 1 := by kernel_rfl
theorem tab.b121 : SL.tby Try.prog 121 = some 8 := by kernel_rfl
theorem tab.z121 : SL.tzero Try.prog 121 = some [Value.pointer none] := by kernel_rfl
theorem tab.a121 : SL.tagg Try.prog 121 = some false := by kernel_rfl
theorem tab.u123 : Try.prog.underlying 123 = some (TypeDesc.array 2 121) := by kernel_rfl
theorem tab.s123 : SL.tsz Try.prog 123 = some 2 := by kernel_rfl
theorem tab.b123 : SL.tby Try.prog 123 = some 16 := by kernel_rfl
theorem tab.z123 : SL.tzero Try.prog 123 = some [Value.pointer none, Value.pointer none] := by kernel_rfl
theorem tab.a123 : SL.tagg Try.prog 123 = some true := by kernel_rfl
theorem tab.l123 : SL.tlit Try.prog 123 = some (some 1) := by kernel_rfl
theorem tab.u124 : Try.prog.underlying 124 = some (TypeDesc.slice 151) := by kernel_rfl
theorem tab.s124 : SL.tsz Try.prog 124 = some 1 := by kernel_rfl
theorem tab.b124 : SL.tby Try.prog 124 = some 24 := by kernel_rfl
theorem tab.z124 : SL.tzero Try.prog 124 = some [Value.slice none 0 0] := by kernel_rfl
theorem tab.a124 : SL.tagg Try.prog 124 = some false := by kernel_rfl
theorem tab.u125 : Try.prog.underlying 125 = some (TypeDesc.array 2 124) := by kernel_rfl
theorem tab.s125 : SL.tsz Try.prog 125 = some 2 := by kernel_rfl
theorem tab.b125 : SL.tby Try.prog 125 = some 48 := by kernel_rfl
theorem tab.z125 : SL.tzero Try.prog 125 = some [Value.slice none 0 0, Value.slice none 0 0] := by kernel_rfl
theorem tab.a125 : SL.tagg Try.prog 125 = some true := by kernel_rfl
theorem tab.l125 : SL.tlit Try.prog 125 = some (some 1) := by kernel_rfl
theorem tab.u126 : Try.prog.underlying 126 = some (TypeDesc.array 2 2) := by kernel_rfl
theorem tab.s126 : SL.tsz Try.prog 126 = some 2 := by kernel_rfl
theorem tab.b126 : SL.tby Try.prog 126 = some 16 := by kernel_rfl
theorem tab.z126 : SL.tzero Try.prog 126 = some [Value.int IntKind.i64 (0 : Int), Value.int IntKind.i64 (0 : Int)] := by kernel_rfl
theorem tab.a126 : SL.tagg Try.prog 126 = some true := by kernel_rfl
theorem tab.l126 : SL.tlit Try.prog 126 = some (some 1) := by kernel_rfl
theorem tab.u127 : Try.prog.underlying 127 = some (TypeDesc.slice 137) := by kernel_rfl
theorem tab.s127 : SL.tsz Try.prog 127 = some 1 := by kernel_rfl
theorem tab.b127 : SL.tby Try.prog 127 = some 24 := by kernel_rfl
theorem tab.z127 : SL.tzero Try.prog 127 = some [Value.slice none 0 0] := by kernel_rfl
theorem tab.a127 : SL.tagg Try.prog 127 = some false := by kernel_rfl
theorem tab.u128 : Try.prog.underlying 128 = some (TypeDesc.array 2 127) := by kernel_rfl
theorem tab.s128 : SL.tsz Try.prog 128 = some 2 := by kernel_rfl
theorem tab.b128 : SL.tby Try.prog 128 = some 48 := by kernel_rfl
theorem tab.z128 : SL.tzero Try.prog 128 = some [Value.slice none 0 0, Value.slice none 0 0] := by kernel_rfl
theorem tab.a128 : SL.tagg Try.prog 128 = some true := by kernel_rfl
theorem tab.l128 : SL.tlit Try.prog 128 = some (some 1) := by kernel_rfl
theorem tab.u130 : Try.prog.underlying 130 = some (TypeDesc.struct #[{ name := "e", type := 123, offset := 0, embedded := false, tag := "", pkgPath := "annulet/annuletlaw09", byteOffset := 0 }, { name := "way", type := 125, offset := 2, embedded := false, tag := "", pkgPath := "annulet/annuletlaw09", byteOffset := 16 }, { name := "count", type := 126, offset := 4, embedded := false, tag := "", pkgPath := "annulet/annuletlaw09", byteOffset := 64 }, { name := "sent", type := 128, offset := 6, embedded := false, tag := "", pkgPath := "annulet/annuletlaw09", byteOffset := 80 }, { name := "got", type := 128, offset := 8, embedded := false, tag := "", pkgPath := "annulet/annuletlaw09", byteOffset := 128 }]) := by kernel_rfl
theorem tab.s130 : SL.tsz Try.prog 130 = some 10 := by kernel_rfl
theorem tab.b130 : SL.tby Try.prog 130 = some 176 := by kernel_rfl
theorem tab.z130 : SL.tzero Try.prog 130 = some [Value.pointer none, Value.pointer none, Value.slice none 0 0, Value.slice none 0 0, Value.int IntKind.i64 (0 : Int), Value.int IntKind.i64 (0 : Int), Value.slice none 0 0, Value.slice none 0 0, Value.slice none 0 0, Value.slice none 0 0] := by kernel_rfl
theorem tab.a130 : SL.tagg Try.prog 130 = some true := by kernel_rfl
theorem tab.l130 : SL.tlit Try.prog 130 = some none := by kernel_rfl
theorem tab.u132 : Try.prog.underlying 132 = some (TypeDesc.struct #[{ name := "Kind", type := 3, offset := 0, embedded := false, tag := "", pkgPath := "", byteOffset := 0 }, { name := "Side", type := 3, offset := 1, embedded := false, tag := "", pkgPath := "", byteOffset := 8 }, { name := "I", type := 3, offset := 2, embedded := false, tag := "", pkgPath := "", byteOffset := 16 }, { name := "Text", type := 35, offset := 3, embedded := false, tag := "", pkgPath := "", byteOffset := 24 }]) := by kernel_rfl
theorem tab.s132 : SL.tsz Try.prog 132 = some 4 := by kernel_rfl
theorem tab.b132 : SL.tby Try.prog 132 = some 48 := by kernel_rfl
theorem tab.z132 : SL.tzero Try.prog 132 = some [Value.int IntKind.i64 (0 : Int), Value.int IntKind.i64 (0 : Int), Value.int IntKind.i64 (0 : Int), Value.slice none 0 0] := by kernel_rfl
theorem tab.a132 : SL.tagg Try.prog 132 = some true := by kernel_rfl
theorem tab.l132 : SL.tlit Try.prog 132 = some none := by kernel_rfl
theorem tab.u135 : Try.prog.underlying 135 = some (TypeDesc.struct #[{ name := "Inc", type := 2, offset := 0, embedded := false, tag := "", pkgPath := "", byteOffset := 0 }, { name := "N", type := 2, offset := 1, embedded := false, tag := "", pkgPath := "", byteOffset := 8 }]) := by kernel_rfl
theorem tab.s135 : SL.tsz Try.prog 135 = some 2 := by kernel_rfl
theorem tab.b135 : SL.tby Try.prog 135 = some 16 := by kernel_rfl
theorem tab.z135 : SL.tzero Try.prog 135 = some [Value.int IntKind.i64 (0 : Int), Value.int IntKind.i64 (0 : Int)] := by kernel_rfl
theorem tab.a135 : SL.tagg Try.prog 135 = some true := by kernel_rfl
theorem tab.l135 : SL.tlit Try.prog 135 = some none := by kernel_rfl
theorem tab.u137 : Try.prog.underlying 137 = some (TypeDesc.struct #[{ name := "a", type := 135, offset := 0, embedded := false, tag := "", pkgPath := "annulet/annuletlaw09", byteOffset := 0 }, { name := "b", type := 135, offset := 2, embedded := false, tag := "", pkgPath := "annulet/annuletlaw09", byteOffset := 16 }, { name := "text", type := 9, offset := 4, embedded := false, tag := "", pkgPath := "annulet/annuletlaw09", byteOffset := 32 }]) := by kernel_rfl
theorem tab.s137 : SL.tsz Try.prog 137 = some 5 := by kernel_rfl
theorem tab.b137 : SL.tby Try.prog 137 = some 48 := by kernel_rfl
theorem tab.z137 : SL.tzero Try.prog 137 = some [Value.int IntKind.i64 (0 : Int), Value.int IntKind.i64 (0 : Int), Value.int IntKind.i64 (0 : Int), Value.int IntKind.i64 (0 : Int), Value.string { data := #[] }] := by kernel_rfl
theorem tab.a137 : SL.tagg Try.prog 137 = some true := by kernel_rfl
theorem tab.l137 : SL.tlit Try.prog 137 = some none := by kernel_rfl
theorem tab.u139 : Try.prog.underlying 139 = some (TypeDesc.slice 153) := by kernel_rfl
theorem tab.s139 : SL.tsz Try.prog 139 = some 1 := by kernel_rfl
theorem tab.b139 : SL.tby Try.prog 139 = some 24 := by kernel_rfl
theorem tab.z139 : SL.tzero Try.prog 139 = some [Value.slice none 0 0] := by kernel_rfl
theorem tab.a139 : SL.tagg Try.prog 139 = some false := by kernel_rfl
theorem tab.u140 : Try.prog.underlying 140 = some (TypeDesc.pointer 142) := by kernel_rfl
theorem tab.s140 : SL.tsz Try.prog 140 = some 1 := by kernel_rfl
theorem tab.b140 : SL.tby Try.prog 140 = some 8 := by kernel_rfl
theorem tab.z140 : SL.tzero Try.prog 140 = some [Value.pointer none] := by kernel_rfl
theorem tab.a140 : SL.tagg Try.prog 140 = some false := by kernel_rfl
theorem tab.u142 : Try.prog.underlying 142 = some (TypeDesc.struct #[{ name := "ID", type := 23, offset := 0, embedded := false, tag := "", pkgPath := "", byteOffset := 0 }, { name := "Up", type := 4, offset := 16, embedded := false, tag := "", pkgPath := "", byteOffset := 16 }, { name := "Open", type := 4, offset := 17, embedded := false, tag := "", pkgPath := "", byteOffset := 17 }, { name := "Mine", type := 135, offset := 18, embedded := false, tag := "", pkgPath := "", byteOffset := 24 }, { name := "Peer", type := 135, offset := 20, embedded := false, tag := "", pkgPath := "", byteOffset := 40 }, { name := "PeerID", type := 23, offset := 22, embedded := false, tag := "", pkgPath := "", byteOffset := 56 }, { name := "W", type := 54, offset := 38, embedded := false, tag := "", pkgPath := "", byteOffset := 72 }]) := by kernel_rfl
theorem tab.s142 : SL.tsz Try.prog 142 = some 41 := by kernel_rfl
theorem tab.b142 : SL.tby Try.prog 142 = some 112 := by kernel_rfl
theorem tab.z142 : SL.tzero Try.prog 142 = some [Value.int IntKind.u8 (0 : Int), Value.int IntKind.u8 (0 : Int), Value.int IntKind.u8 (0 : Int), Value.int IntKind.u8 (0 : Int), Value.int IntKind.u8 (0 : Int), Value.int IntKind.u8 (0 : Int), Value.int IntKind.u8 (0 : Int), Value.int IntKind.u8 (0 : Int), Value.int IntKind.u8 (0 : Int), Value.int IntKind.u8 (0 : Int), Value.int IntKind.u8 (0 : Int), Value.int IntKind.u8 (0 : Int), Value.int IntKind.u8 (0 : Int), Value.int IntKind.u8 (0 : Int), Value.int IntKind.u8 (0 : Int), Value.int IntKind.u8 (0 : Int), Value.bool false, Value.bool false, Value.int IntKind.i64 (0 : Int), Value.int IntKind.i64 (0 : Int), Value.int IntKind.i64 (0 : Int), Value.int IntKind.i64 (0 : Int), Value.int IntKind.u8 (0 : Int), Value.int IntKind.u8 (0 : Int), Value.int IntKind.u8 (0 : Int), Value.int IntKind.u8 (0 : Int), Value.int IntKind.u8 (0 : Int), Value.int IntKind.u8 (0 : Int), Value.int IntKind.u8 (0 : Int), Value.int IntKind.u8 (0 : Int), Value.int IntKind.u8 (0 : Int), Value.int IntKind.u8 (0 : Int), Value.int IntKind.u8 (0 : Int), Value.int IntKind.u8 (0 : Int), Value.int IntKind.u8 (0 : Int), Value.int IntKind.u8 (0 : Int), Value.int IntKind.u8 (0 : Int), Value.int IntKind.u8 (0 : Int), Value.slice none 0 0, Value.int IntKind.i64 (0 : Int), Value.int IntKind.i64 (0 : Int)] := by kernel_rfl
theorem tab.a142 : SL.tagg Try.prog 142 = some true := by kernel_rfl
theorem tab.l142 : SL.tlit Try.prog 142 = some none := by kernel_rfl
theorem tab.u144 : Try.prog.underlying 144 = some (TypeDesc.struct #[{ name := "Who", type := 23, offset := 0, embedded := false, tag := "", pkgPath := "", byteOffset := 0 }, { name := "N", type := 2, offset := 16, embedded := false, tag := "", pkgPath := "", byteOffset := 16 }]) := by kernel_rfl
theorem tab.s144 : SL.tsz Try.prog 144 = some 17 := by kernel_rfl
theorem tab.b144 : SL.tby Try.prog 144 = some 24 := by kernel_rfl
theorem tab.z144 : SL.tzero Try.prog 144 = some [Value.int IntKind.u8 (0 : Int), Value.int IntKind.u8 (0 : Int), Value.int IntKind.u8 (0 : Int), Value.int IntKind.u8 (0 : Int), Value.int IntKind.u8 (0 : Int), Value.int IntKind.u8 (0 : Int), Value.int IntKind.u8 (0 : Int), Value.int IntKind.u8 (0 : Int), Value.int IntKind.u8 (0 : Int), Value.int IntKind.u8 (0 : Int), Value.int IntKind.u8 (0 : Int), Value.int IntKind.u8 (0 : Int), Value.int IntKind.u8 (0 : Int), Value.int IntKind.u8 (0 : Int), Value.int IntKind.u8 (0 : Int), Value.int IntKind.u8 (0 : Int), Value.int IntKind.i64 (0 : Int)] := by kernel_rfl
theorem tab.a144 : SL.tagg Try.prog 144 = some true := by kernel_rfl
theorem tab.l144 : SL.tlit Try.prog 144 = some none := by kernel_rfl
theorem tab.u145 : Try.prog.underlying 145 = some (TypeDesc.slice 3) := by kernel_rfl
theorem tab.s145 : SL.tsz Try.prog 145 = some 1 := by kernel_rfl
theorem tab.b145 : SL.tby Try.prog 145 = some 24 := by kernel_rfl
theorem tab.z145 : SL.tzero Try.prog 145 = some [Value.slice none 0 0] := by kernel_rfl
theorem tab.a145 : SL.tagg Try.prog 145 = some false := by kernel_rfl
theorem tab.u147 : Try.prog.underlying 147 = some (TypeDesc.struct #[{ name := "N", type := 2, offset := 0, embedded := false, tag := "", pkgPath := "", byteOffset := 0 }, { name := "Who", type := 23, offset := 1, embedded := false, tag := "", pkgPath := "", byteOffset := 8 }]) := by kernel_rfl
theorem tab.s147 : SL.tsz Try.prog 147 = some 17 := by kernel_rfl
theorem tab.b147 : SL.tby Try.prog 147 = some 24 := by kernel_rfl
theorem tab.z147 : SL.tzero Try.prog 147 = some [Value.int IntKind.i64 (0 : Int), Value.int IntKind.u8 (0 : Int), Value.int IntKind.u8 (0 : Int), Value.int IntKind.u8 (0 : Int), Value.int IntKind.u8 (0 : Int), Value.int IntKind.u8 (0 : Int), Value.int IntKind.u8 (0 : Int), Value.int IntKind.u8 (0 : Int), Value.int IntKind.u8 (0 : Int), Value.int IntKind.u8 (0 : Int), Value.int IntKind.u8 (0 : Int), Value.int IntKind.u8 (0 : Int), Value.int IntKind.u8 (0 : Int), Value.int IntKind.u8 (0 : Int), Value.int IntKind.u8 (0 : Int), Value.int IntKind.u8 (0 : Int), Value.int IntKind.u8 (0 : Int)] := by kernel_rfl
theorem tab.a147 : SL.tagg Try.prog 147 = some true := by kernel_rfl
theorem tab.l147 : SL.tlit Try.prog 147 = some none := by kernel_rfl
theorem tab.u149 : Try.prog.underlying 149 = some (TypeDesc.struct #[{ name := "Key", type := 23, offset := 0, embedded := false, tag := "", pkgPath := "", byteOffset := 0 }, { name := "Ver", type := 147, offset := 16, embedded := false, tag := "", pkgPath := "", byteOffset := 16 }, { name := "Value", type := 35, offset := 33, embedded := false, tag := "", pkgPath := "", byteOffset := 40 }]) := by kernel_rfl
theorem tab.s149 : SL.tsz Try.prog 149 = some 34 := by kernel_rfl
theorem tab.b149 : SL.tby Try.prog 149 = some 64 := by kernel_rfl
theorem tab.z149 : SL.tzero Try.prog 149 = some [Value.int IntKind.u8 (0 : Int), Value.int IntKind.u8 (0 : Int), Value.int IntKind.u8 (0 : Int), Value.int IntKind.u8 (0 : Int), Value.int IntKind.u8 (0 : Int), Value.int IntKind.u8 (0 : Int), Value.int IntKind.u8 (0 : Int), Value.int IntKind.u8 (0 : Int), Value.int IntKind.u8 (0 : Int), Value.int IntKind.u8 (0 : Int), Value.int IntKind.u8 (0 : Int), Value.int IntKind.u8 (0 : Int), Value.int IntKind.u8 (0 : Int), Value.int IntKind.u8 (0 : Int), Value.int IntKind.u8 (0 : Int), Value.int IntKind.u8 (0 : Int), Value.int IntKind.i64 (0 : Int), Value.int IntKind.u8 (0 : Int), Value.int IntKind.u8 (0 : Int), Value.int IntKind.u8 (0 : Int), Value.int IntKind.u8 (0 : Int), Value.int IntKind.u8 (0 : Int), Value.int IntKind.u8 (0 : Int), Value.int IntKind.u8 (0 : Int), Value.int IntKind.u8 (0 : Int), Value.int IntKind.u8 (0 : Int), Value.int IntKind.u8 (0 : Int), Value.int IntKind.u8 (0 : Int), Value.int IntKind.u8 (0 : Int), Value.int IntKind.u8 (0 : Int), Value.int IntKind.u8 (0 : Int), Value.int IntKind.u8 (0 : Int), Value.int IntKind.u8 (0 : Int), Value.slice none 0 0] := by kernel_rfl
theorem tab.a149 : SL.tagg Try.prog 149 = some true := by kernel_rfl
theorem tab.l149 : SL.tlit Try.prog 149 = some none := by kernel_rfl
theorem tab.u151 : Try.prog.underlying 151 = some (TypeDesc.struct #[{ name := "Kind", type := 3, offset := 0, embedded := false, tag := "", pkgPath := "", byteOffset := 0 }, { name := "P", type := 144, offset := 1, embedded := false, tag := "", pkgPath := "", byteOffset := 8 }, { name := "ToA", type := 4, offset := 18, embedded := false, tag := "", pkgPath := "", byteOffset := 32 }, { name := "A", type := 23, offset := 19, embedded := false, tag := "", pkgPath := "", byteOffset := 33 }, { name := "B", type := 23, offset := 35, embedded := false, tag := "", pkgPath := "", byteOffset := 49 }, { name := "N", type := 2, offset := 51, embedded := false, tag := "", pkgPath := "", byteOffset := 72 }, { name := "From", type := 135, offset := 52, embedded := false, tag := "", pkgPath := "", byteOffset := 80 }, { name := "To", type := 135, offset := 54, embedded := false, tag := "", pkgPath := "", byteOffset := 96 }, { name := "Trail", type := 145, offset := 56, embedded := false, tag := "", pkgPath := "", byteOffset := 112 }, { name := "IDs", type := 79, offset := 57, embedded := false, tag := "", pkgPath := "", byteOffset := 136 }, { name := "Item", type := 149, offset := 58, embedded := false, tag := "", pkgPath := "", byteOffset := 160 }, { name := "Op", type := 3, offset := 92, embedded := false, tag := "", pkgPath := "", byteOffset := 224 }, { name := "TTL", type := 3, offset := 93, embedded := false, tag := "", pkgPath := "", byteOffset := 232 }, { name := "Text", type := 35, offset := 94, embedded := false, tag := "", pkgPath := "", byteOffset := 240 }]) := by kernel_rfl
theorem tab.s151 : SL.tsz Try.prog 151 = some 95 := by kernel_rfl
theorem tab.b151 : SL.tby Try.prog 151 = some 264 := by kernel_rfl
theorem tab.z151 : SL.tzero Try.prog 151 = some [Value.int IntKind.i64 (0 : Int), Value.int IntKind.u8 (0 : Int), Value.int IntKind.u8 (0 : Int), Value.int IntKind.u8 (0 : Int), Value.int IntKind.u8 (0 : Int), Value.int IntKind.u8 (0 : Int), Value.int IntKind.u8 (0 : Int), Value.int IntKind.u8 (0 : Int), Value.int IntKind.u8 (0 : Int), Value.int IntKind.u8 (0 : Int), Value.int IntKind.u8 (0 : Int), Value.int IntKind.u8 (0 : Int), Value.int IntKind.u8 (0 : Int), Value.int IntKind.u8 (0 : Int), Value.int IntKind.u8 (0 : Int), Value.int IntKind.u8 (0 : Int), Value.int IntKind.u8 (0 : Int), Value.int IntKind.i64 (0 : Int), Value.bool false, Value.int IntKind.u8 (0 : Int), Value.int IntKind.u8 (0 : Int), Value.int IntKind.u8 (0 : Int), Value.int IntKind.u8 (0 : Int), Value.int IntKind.u8 (0 : Int), Value.int IntKind.u8 (0 : Int), Value.int IntKind.u8 (0 : Int), Value.int IntKind.u8 (0 : Int), Value.int IntKind.u8 (0 : Int), Value.int IntKind.u8 (0 : Int), Value.int IntKind.u8 (0 : Int), Value.int IntKind.u8 (0 : Int), Value.int IntKind.u8 (0 : Int), Value.int IntKind.u8 (0 : Int), Value.int IntKind.u8 (0 : Int), Value.int IntKind.u8 (0 : Int), Value.int IntKind.u8 (0 : Int), Value.int IntKind.u8 (0 : Int), Value.int IntKind.u8 (0 : Int), Value.int IntKind.u8 (0 : Int), Value.int IntKind.u8 (0 : Int), Value.int IntKind.u8 (0 : Int), Value.int IntKind.u8 (0 : Int), Value.int IntKind.u8 (0 : Int), Value.int IntKind.u8 (0 : Int), Value.int IntKind.u8 (0 : Int), Value.int IntKind.u8 (0 : Int), Value.int IntKind.u8 (0 : Int), Value.int IntKind.u8 (0 : Int), Value.int IntKind.u8 (0 : Int), Value.int IntKind.u8 (0 : Int), Value.int IntKind.u8 (0 : Int), Value.int IntKind.i64 (0 : Int), Value.int IntKind.i64 (0 : Int), Value.int IntKind.i64 (0 : Int), Value.int IntKind.i64 (0 : Int), Value.int IntKind.i64 (0 : Int), Value.slice none 0 0, Value.slice none 0 0, Value.int IntKind.u8 (0 : Int), Value.int IntKind.u8 (0 : Int), Value.int IntKind.u8 (0 : Int), Value.int IntKind.u8 (0 : Int), Value.int IntKind.u8 (0 : Int), Value.int IntKind.u8 (0 : Int), Value.int IntKind.u8 (0 : Int), Value.int IntKind.u8 (0 : Int), Value.int IntKind.u8 (0 : Int), Value.int IntKind.u8 (0 : Int), Value.int IntKind.u8 (0 : Int), Value.int IntKind.u8 (0 : Int), Value.int IntKind.u8 (0 : Int), Value.int IntKind.u8 (0 : Int), Value.int IntKind.u8 (0 : Int), Value.int IntKind.u8 (0 : Int), Value.int IntKind.i64 (0 : Int), Value.int IntKind.u8 (0 : Int), Value.int IntKind.u8 (0 : Int), Value.int IntKind.u8 (0 : Int), Value.int IntKind.u8 (0 : Int), Value.int IntKind.u8 (0 : Int), Value.int IntKind.u8 (0 : Int), Value.int IntKind.u8 (0 : Int), Value.int IntKind.u8 (0 : Int), Value.int IntKind.u8 (0 : Int), Value.int IntKind.u8 (0 : Int), Value.int IntKind.u8 (0 : Int), Value.int IntKind.u8 (0 : Int), Value.int IntKind.u8 (0 : Int), Value.int IntKind.u8 (0 : Int), Value.int IntKind.u8 (0 : Int), Value.int IntKind.u8 (0 : Int), Value.slice none 0 0, Value.int IntKind.i64 (0 : Int), Value.int IntKind.i64 (0 : Int), Value.slice none 0 0] := by kernel_rfl
theorem tab.a151 : SL.tagg Try.prog 151 = some true := by kernel_rfl
theorem tab.l151 : SL.tlit Try.prog 151 = some none := by kernel_rfl
theorem tab.u153 : Try.prog.underlying 153 = some (TypeDesc.struct #[{ name := "Kind", type := 3, offset := 0, embedded := false, tag := "", pkgPath := "", byteOffset := 0 }, { name := "Num", type := 135, offset := 1, embedded := false, tag := "", pkgPath := "", byteOffset := 8 }, { name := "Text", type := 35, offset := 3, embedded := false, tag := "", pkgPath := "", byteOffset := 24 }, { name := "F", type := 151, offset := 4, embedded := false, tag := "", pkgPath := "", byteOffset := 48 }]) := by kernel_rfl
theorem tab.s153 : SL.tsz Try.prog 153 = some 99 := by kernel_rfl
theorem tab.b153 : SL.tby Try.prog 153 = some 312 := by kernel_rfl
theorem tab.z153 : SL.tzero Try.prog 153 = some [Value.int IntKind.i64 (0 : Int), Value.int IntKind.i64 (0 : Int), Value.int IntKind.i64 (0 : Int), Value.slice none 0 0, Value.int IntKind.i64 (0 : Int), Value.int IntKind.u8 (0 : Int), Value.int IntKind.u8 (0 : Int), Value.int IntKind.u8 (0 : Int), Value.int IntKind.u8 (0 : Int), Value.int IntKind.u8 (0 : Int), Value.int IntKind.u8 (0 : Int), Value.int IntKind.u8 (0 : Int), Value.int IntKind.u8 (0 : Int), Value.int IntKind.u8 (0 : Int), Value.int IntKind.u8 (0 : Int), Value.int IntKind.u8 (0 : Int), Value.int IntKind.u8 (0 : Int), Value.int IntKind.u8 (0 : Int), Value.int IntKind.u8 (0 : Int), Value.int IntKind.u8 (0 : Int), Value.int IntKind.u8 (0 : Int), Value.int IntKind.i64 (0 : Int), Value.bool false, Value.int IntKind.u8 (0 : Int), Value.int IntKind.u8 (0 : Int), Value.int IntKind.u8 (0 : Int), Value.int IntKind.u8 (0 : Int), Value.int IntKind.u8 (0 : Int), Value.int IntKind.u8 (0 : Int), Value.int IntKind.u8 (0 : Int), Value.int IntKind.u8 (0 : Int), Value.int IntKind.u8 (0 : Int), Value.int IntKind.u8 (0 : Int), Value.int IntKind.u8 (0 : Int), Value.int IntKind.u8 (0 : Int), Value.int IntKind.u8 (0 : Int), Value.int IntKind.u8 (0 : Int), Value.int IntKind.u8 (0 : Int), Value.int IntKind.u8 (0 : Int), Value.int IntKind.u8 (0 : Int), Value.int IntKind.u8 (0 : Int), Value.int IntKind.u8 (0 : Int), Value.int IntKind.u8 (0 : Int), Value.int IntKind.u8 (0 : Int), Value.int IntKind.u8 (0 : Int), Value.int IntKind.u8 (0 : Int), Value.int IntKind.u8 (0 : Int), Value.int IntKind.u8 (0 : Int), Value.int IntKind.u8 (0 : Int), Value.int IntKind.u8 (0 : Int), Value.int IntKind.u8 (0 : Int), Value.int IntKind.u8 (0 : Int), Value.int IntKind.u8 (0 : Int), Value.int IntKind.u8 (0 : Int), Value.int IntKind.u8 (0 : Int), Value.int IntKind.i64 (0 : Int), Value.int IntKind.i64 (0 : Int), Value.int IntKind.i64 (0 : Int), Value.int IntKind.i64 (0 : Int), Value.int IntKind.i64 (0 : Int), Value.slice none 0 0, Value.slice none 0 0, Value.int IntKind.u8 (0 : Int), Value.int IntKind.u8 (0 : Int), Value.int IntKind.u8 (0 : Int), Value.int IntKind.u8 (0 : Int), Value.int IntKind.u8 (0 : Int), Value.int IntKind.u8 (0 : Int), Value.int IntKind.u8 (0 : Int), Value.int IntKind.u8 (0 : Int), Value.int IntKind.u8 (0 : Int), Value.int IntKind.u8 (0 : Int), Value.int IntKind.u8 (0 : Int), Value.int IntKind.u8 (0 : Int), Value.int IntKind.u8 (0 : Int), Value.int IntKind.u8 (0 : Int), Value.int IntKind.u8 (0 : Int), Value.int IntKind.u8 (0 : Int), Value.int IntKind.i64 (0 : Int), Value.int IntKind.u8 (0 : Int), Value.int IntKind.u8 (0 : Int), Value.int IntKind.u8 (0 : Int), Value.int IntKind.u8 (0 : Int), Value.int IntKind.u8 (0 : Int), Value.int IntKind.u8 (0 : Int), Value.int IntKind.u8 (0 : Int), Value.int IntKind.u8 (0 : Int), Value.int IntKind.u8 (0 : Int), Value.int IntKind.u8 (0 : Int), Value.int IntKind.u8 (0 : Int), Value.int IntKind.u8 (0 : Int), Value.int IntKind.u8 (0 : Int), Value.int IntKind.u8 (0 : Int), Value.int IntKind.u8 (0 : Int), Value.int IntKind.u8 (0 : Int), Value.slice none 0 0, Value.int IntKind.i64 (0 : Int), Value.int IntKind.i64 (0 : Int), Value.slice none 0 0] := by kernel_rfl
theorem tab.a153 : SL.tagg Try.prog 153 = some true := by kernel_rfl
theorem tab.l153 : SL.tlit Try.prog 153 = some none := by kernel_rfl
theorem tab.u162 : Try.prog.underlying 162 = some (TypeDesc.struct #[{ name := "Died", type := 4, offset := 0, embedded := false, tag := "", pkgPath := "", byteOffset := 0 }, { name := "Opened", type := 4, offset := 1, embedded := false, tag := "", pkgPath := "", byteOffset := 1 }, { name := "Text", type := 35, offset := 2, embedded := false, tag := "", pkgPath := "", byteOffset := 8 }, { name := "Came", type := 4, offset := 3, embedded := false, tag := "", pkgPath := "", byteOffset := 32 }, { name := "Out", type := 124, offset := 4, embedded := false, tag := "", pkgPath := "", byteOffset := 40 }]) := by kernel_rfl
theorem tab.s162 : SL.tsz Try.prog 162 = some 5 := by kernel_rfl
theorem tab.b162 : SL.tby Try.prog 162 = some 64 := by kernel_rfl
theorem tab.z162 : SL.tzero Try.prog 162 = some [Value.bool false, Value.bool false, Value.slice none 0 0, Value.bool false, Value.slice none 0 0] := by kernel_rfl
theorem tab.a162 : SL.tagg Try.prog 162 = some true := by kernel_rfl
theorem tab.l162 : SL.tlit Try.prog 162 = some none := by kernel_rfl
theorem tab.u165 : Try.prog.underlying 165 = some (TypeDesc.struct #[{ name := "Died", type := 4, offset := 0, embedded := false, tag := "", pkgPath := "", byteOffset := 0 }, { name := "Opened", type := 4, offset := 1, embedded := false, tag := "", pkgPath := "", byteOffset := 1 }, { name := "Text", type := 35, offset := 2, embedded := false, tag := "", pkgPath := "", byteOffset := 8 }, { name := "Came", type := 4, offset := 3, embedded := false, tag := "", pkgPath := "", byteOffset := 32 }, { name := "Out", type := 124, offset := 4, embedded := false, tag := "", pkgPath := "", byteOffset := 40 }]) := by kernel_rfl
theorem tab.s165 : SL.tsz Try.prog 165 = some 5 := by kernel_rfl
theorem tab.b165 : SL.tby Try.prog 165 = some 64 := by kernel_rfl
theorem tab.z165 : SL.tzero Try.prog 165 = some [Value.bool false, Value.bool false, Value.slice none 0 0, Value.bool false, Value.slice none 0 0] := by kernel_rfl
theorem tab.a165 : SL.tagg Try.prog 165 = some true := by kernel_rfl
theorem tab.l165 : SL.tlit Try.prog 165 = some none := by kernel_rfl
theorem tab.u175 : Try.prog.underlying 175 = some (TypeDesc.slice 121) := by kernel_rfl
theorem tab.s175 : SL.tsz Try.prog 175 = some 1 := by kernel_rfl
theorem tab.b175 : SL.tby Try.prog 175 = some 24 := by kernel_rfl
theorem tab.z175 : SL.tzero Try.prog 175 = some [Value.slice none 0 0] := by kernel_rfl
theorem tab.a175 : SL.tagg Try.prog 175 = some false := by kernel_rfl
theorem tab.u181 : Try.prog.underlying 181 = some (TypeDesc.interface #[("Kind", 173)]) := by kernel_rfl
theorem tab.s181 : SL.tsz Try.prog 181 = some 1 := by kernel_rfl
theorem tab.b181 : SL.tby Try.prog 181 = some 16 := by kernel_rfl
theorem tab.z181 : SL.tzero Try.prog 181 = some [Value.nilIface] := by kernel_rfl
theorem tab.a181 : SL.tagg Try.prog 181 = some false := by kernel_rfl
theorem tab.u197 : Try.prog.underlying 197 = some (TypeDesc.struct #[{ name := "base", type := 2, offset := 0, embedded := false, tag := "", pkgPath := "annulet/window", byteOffset := 0 }, { name := "out", type := 44, offset := 1, embedded := false, tag := "", pkgPath := "annulet/window", byteOffset := 8 }, { name := "got", type := 2, offset := 2, embedded := false, tag := "", pkgPath := "annulet/window", byteOffset := 32 }]) := by kernel_rfl
theorem tab.s197 : SL.tsz Try.prog 197 = some 3 := by kernel_rfl
theorem tab.b197 : SL.tby Try.prog 197 = some 40 := by kernel_rfl
theorem tab.z197 : SL.tzero Try.prog 197 = some [Value.int IntKind.i64 (0 : Int), Value.slice none 0 0, Value.int IntKind.i64 (0 : Int)] := by kernel_rfl
theorem tab.a197 : SL.tagg Try.prog 197 = some true := by kernel_rfl
theorem tab.l197 : SL.tlit Try.prog 197 = some none := by kernel_rfl
theorem tab.u198 : Try.prog.underlying 198 = some (TypeDesc.array 2 3) := by kernel_rfl
theorem tab.s198 : SL.tsz Try.prog 198 = some 2 := by kernel_rfl
theorem tab.b198 : SL.tby Try.prog 198 = some 16 := by kernel_rfl
theorem tab.z198 : SL.tzero Try.prog 198 = some [Value.int IntKind.i64 (0 : Int), Value.int IntKind.i64 (0 : Int)] := by kernel_rfl
theorem tab.a198 : SL.tagg Try.prog 198 = some true := by kernel_rfl
theorem tab.l198 : SL.tlit Try.prog 198 = some (some 1) := by kernel_rfl
theorem tab.u204 : Try.prog.underlying 204 = some (TypeDesc.struct #[{ name := "id", type := 23, offset := 0, embedded := false, tag := "", pkgPath := "annulet/hello", byteOffset := 0 }, { name := "up", type := 4, offset := 16, embedded := false, tag := "", pkgPath := "annulet/hello", byteOffset := 16 }, { name := "open", type := 4, offset := 17, embedded := false, tag := "", pkgPath := "annulet/hello", byteOffset := 17 }, { name := "mine", type := 135, offset := 18, embedded := false, tag := "", pkgPath := "annulet/hello", byteOffset := 24 }, { name := "peer", type := 135, offset := 20, embedded := false, tag := "", pkgPath := "annulet/hello", byteOffset := 40 }, { name := "peerID", type := 23, offset := 22, embedded := false, tag := "", pkgPath := "annulet/hello", byteOffset := 56 }, { name := "w", type := 50, offset := 38, embedded := false, tag := "", pkgPath := "annulet/hello", byteOffset := 72 }]) := by kernel_rfl
theorem tab.s204 : SL.tsz Try.prog 204 = some 39 := by kernel_rfl
theorem tab.b204 : SL.tby Try.prog 204 = some 80 := by kernel_rfl
theorem tab.z204 : SL.tzero Try.prog 204 = some [Value.int IntKind.u8 (0 : Int), Value.int IntKind.u8 (0 : Int), Value.int IntKind.u8 (0 : Int), Value.int IntKind.u8 (0 : Int), Value.int IntKind.u8 (0 : Int), Value.int IntKind.u8 (0 : Int), Value.int IntKind.u8 (0 : Int), Value.int IntKind.u8 (0 : Int), Value.int IntKind.u8 (0 : Int), Value.int IntKind.u8 (0 : Int), Value.int IntKind.u8 (0 : Int), Value.int IntKind.u8 (0 : Int), Value.int IntKind.u8 (0 : Int), Value.int IntKind.u8 (0 : Int), Value.int IntKind.u8 (0 : Int), Value.int IntKind.u8 (0 : Int), Value.bool false, Value.bool false, Value.int IntKind.i64 (0 : Int), Value.int IntKind.i64 (0 : Int), Value.int IntKind.i64 (0 : Int), Value.int IntKind.i64 (0 : Int), Value.int IntKind.u8 (0 : Int), Value.int IntKind.u8 (0 : Int), Value.int IntKind.u8 (0 : Int), Value.int IntKind.u8 (0 : Int), Value.int IntKind.u8 (0 : Int), Value.int IntKind.u8 (0 : Int), Value.int IntKind.u8 (0 : Int), Value.int IntKind.u8 (0 : Int), Value.int IntKind.u8 (0 : Int), Value.int IntKind.u8 (0 : Int), Value.int IntKind.u8 (0 : Int), Value.int IntKind.u8 (0 : Int), Value.int IntKind.u8 (0 : Int), Value.int IntKind.u8 (0 : Int), Value.int IntKind.u8 (0 : Int), Value.int IntKind.u8 (0 : Int), Value.pointer none] := by kernel_rfl
theorem tab.a204 : SL.tagg Try.prog 204 = some true := by kernel_rfl
theorem tab.l204 : SL.tlit Try.prog 204 = some none := by kernel_rfl
theorem tab.u210 : Try.prog.underlying 210 = some (TypeDesc.struct #[{ name := "From", type := 135, offset := 0, embedded := false, tag := "", pkgPath := "", byteOffset := 0 }, { name := "To", type := 135, offset := 2, embedded := false, tag := "", pkgPath := "", byteOffset := 16 }, { name := "N", type := 2, offset := 4, embedded := false, tag := "", pkgPath := "", byteOffset := 32 }, { name := "Text", type := 35, offset := 5, embedded := false, tag := "", pkgPath := "", byteOffset := 40 }]) := by kernel_rfl
theorem tab.s210 : SL.tsz Try.prog 210 = some 6 := by kernel_rfl
theorem tab.b210 : SL.tby Try.prog 210 = some 64 := by kernel_rfl
theorem tab.z210 : SL.tzero Try.prog 210 = some [Value.int IntKind.i64 (0 : Int), Value.int IntKind.i64 (0 : Int), Value.int IntKind.i64 (0 : Int), Value.int IntKind.i64 (0 : Int), Value.int IntKind.i64 (0 : Int), Value.slice none 0 0] := by kernel_rfl
theorem tab.a210 : SL.tagg Try.prog 210 = some true := by kernel_rfl
theorem tab.l210 : SL.tlit Try.prog 210 = some none := by kernel_rfl
theorem tab.u214 : Try.prog.underlying 214 = some (TypeDesc.struct #[{ name := "Mine", type := 135, offset := 0, embedded := false, tag := "", pkgPath := "", byteOffset := 0 }, { name := "Seen", type := 135, offset := 2, embedded := false, tag := "", pkgPath := "", byteOffset := 16 }, { name := "ID", type := 23, offset := 4, embedded := false, tag := "", pkgPath := "", byteOffset := 32 }]) := by kernel_rfl
theorem tab.s214 : SL.tsz Try.prog 214 = some 20 := by kernel_rfl
theorem tab.b214 : SL.tby Try.prog 214 = some 48 := by kernel_rfl
theorem tab.z214 : SL.tzero Try.prog 214 = some [Value.int IntKind.i64 (0 : Int), Value.int IntKind.i64 (0 : Int), Value.int IntKind.i64 (0 : Int), Value.int IntKind.i64 (0 : Int), Value.int IntKind.u8 (0 : Int), Value.int IntKind.u8 (0 : Int), Value.int IntKind.u8 (0 : Int), Value.int IntKind.u8 (0 : Int), Value.int IntKind.u8 (0 : Int), Value.int IntKind.u8 (0 : Int), Value.int IntKind.u8 (0 : Int), Value.int IntKind.u8 (0 : Int), Value.int IntKind.u8 (0 : Int), Value.int IntKind.u8 (0 : Int), Value.int IntKind.u8 (0 : Int), Value.int IntKind.u8 (0 : Int), Value.int IntKind.u8 (0 : Int), Value.int IntKind.u8 (0 : Int), Value.int IntKind.u8 (0 : Int), Value.int IntKind.u8 (0 : Int)] := by kernel_rfl
theorem tab.a214 : SL.tagg Try.prog 214 = some true := by kernel_rfl
theorem tab.l214 : SL.tlit Try.prog 214 = some none := by kernel_rfl
theorem tab.u218 : Try.prog.underlying 218 = some (TypeDesc.struct #[{ name := "From", type := 135, offset := 0, embedded := false, tag := "", pkgPath := "", byteOffset := 0 }, { name := "To", type := 135, offset := 2, embedded := false, tag := "", pkgPath := "", byteOffset := 16 }, { name := "N", type := 2, offset := 4, embedded := false, tag := "", pkgPath := "", byteOffset := 32 }]) := by kernel_rfl
theorem tab.s218 : SL.tsz Try.prog 218 = some 5 := by kernel_rfl
theorem tab.b218 : SL.tby Try.prog 218 = some 40 := by kernel_rfl
theorem tab.z218 : SL.tzero Try.prog 218 = some [Value.int IntKind.i64 (0 : Int), Value.int IntKind.i64 (0 : Int), Value.int IntKind.i64 (0 : Int), Value.int IntKind.i64 (0 : Int), Value.int IntKind.i64 (0 : Int)] := by kernel_rfl
theorem tab.a218 : SL.tagg Try.prog 218 = some true := by kernel_rfl
theorem tab.l218 : SL.tlit Try.prog 218 = some none := by kernel_rfl
theorem tab.u220 : Try.prog.underlying 220 = some (TypeDesc.pointer 222) := by kernel_rfl
theorem tab.s220 : SL.tsz Try.prog 220 = some 1 := by kernel_rfl
theorem tab.b220 : SL.tby Try.prog 220 = some 8 := by kernel_rfl
theorem tab.z220 : SL.tzero Try.prog 220 = some [Value.pointer none] := by kernel_rfl
theorem tab.a220 : SL.tagg Try.prog 220 = some false := by kernel_rfl
theorem tab.u222 : Try.prog.underlying 222 = some (TypeDesc.struct #[{ name := "b", type := 35, offset := 0, embedded := false, tag := "", pkgPath := "annulet/frame", byteOffset := 0 }]) := by kernel_rfl
theorem tab.s222 : SL.tsz Try.prog 222 = some 1 := by kernel_rfl
theorem tab.b222 : SL.tby Try.prog 222 = some 24 := by kernel_rfl
theorem tab.z222 : SL.tzero Try.prog 222 = some [Value.slice none 0 0] := by kernel_rfl
theorem tab.a222 : SL.tagg Try.prog 222 = some true := by kernel_rfl
theorem tab.l222 : SL.tlit Try.prog 222 = some none := by kernel_rfl
theorem tab.u226 : Try.prog.underlying 226 = some (TypeDesc.struct #[{ name := "P", type := 144, offset := 0, embedded := false, tag := "", pkgPath := "", byteOffset := 0 }, { name := "A", type := 23, offset := 17, embedded := false, tag := "", pkgPath := "", byteOffset := 24 }, { name := "B", type := 23, offset := 33, embedded := false, tag := "", pkgPath := "", byteOffset := 40 }, { name := "Trail", type := 145, offset := 49, embedded := false, tag := "", pkgPath := "", byteOffset := 56 }]) := by kernel_rfl
theorem tab.s226 : SL.tsz Try.prog 226 = some 50 := by kernel_rfl
theorem tab.b226 : SL.tby Try.prog 226 = some 80 := by kernel_rfl
theorem tab.z226 : SL.tzero Try.prog 226 = some [Value.int IntKind.u8 (0 : Int), Value.int IntKind.u8 (0 : Int), Value.int IntKind.u8 (0 : Int), Value.int IntKind.u8 (0 : Int), Value.int IntKind.u8 (0 : Int), Value.int IntKind.u8 (0 : Int), Value.int IntKind.u8 (0 : Int), Value.int IntKind.u8 (0 : Int), Value.int IntKind.u8 (0 : Int), Value.int IntKind.u8 (0 : Int), Value.int IntKind.u8 (0 : Int), Value.int IntKind.u8 (0 : Int), Value.int IntKind.u8 (0 : Int), Value.int IntKind.u8 (0 : Int), Value.int IntKind.u8 (0 : Int), Value.int IntKind.u8 (0 : Int), Value.int IntKind.i64 (0 : Int), Value.int IntKind.u8 (0 : Int), Value.int IntKind.u8 (0 : Int), Value.int IntKind.u8 (0 : Int), Value.int IntKind.u8 (0 : Int), Value.int IntKind.u8 (0 : Int), Value.int IntKind.u8 (0 : Int), Value.int IntKind.u8 (0 : Int), Value.int IntKind.u8 (0 : Int), Value.int IntKind.u8 (0 : Int), Value.int IntKind.u8 (0 : Int), Value.int IntKind.u8 (0 : Int), Value.int IntKind.u8 (0 : Int), Value.int IntKind.u8 (0 : Int), Value.int IntKind.u8 (0 : Int), Value.int IntKind.u8 (0 : Int), Value.int IntKind.u8 (0 : Int), Value.int IntKind.u8 (0 : Int), Value.int IntKind.u8 (0 : Int), Value.int IntKind.u8 (0 : Int), Value.int IntKind.u8 (0 : Int), Value.int IntKind.u8 (0 : Int), Value.int IntKind.u8 (0 : Int), Value.int IntKind.u8 (0 : Int), Value.int IntKind.u8 (0 : Int), Value.int IntKind.u8 (0 : Int), Value.int IntKind.u8 (0 : Int), Value.int IntKind.u8 (0 : Int), Value.int IntKind.u8 (0 : Int), Value.int IntKind.u8 (0 : Int), Value.int IntKind.u8 (0 : Int), Value.int IntKind.u8 (0 : Int), Value.int IntKind.u8 (0 : Int), Value.slice none 0 0] := by kernel_rfl
theorem tab.a226 : SL.tagg Try.prog 226 = some true := by kernel_rfl
theorem tab.l226 : SL.tlit Try.prog 226 = some none := by kernel_rfl
theorem tab.u230 : Try.prog.underlying 230 = some (TypeDesc.struct #[{ name := "P", type := 144, offset := 0, embedded := false, tag := "", pkgPath := "", byteOffset := 0 }]) := by kernel_rfl
theorem tab.s230 : SL.tsz Try.prog 230 = some 17 := by kernel_rfl
theorem tab.b230 : SL.tby Try.prog 230 = some 24 := by kernel_rfl
theorem tab.z230 : SL.tzero Try.prog 230 = some [Value.int IntKind.u8 (0 : Int), Value.int IntKind.u8 (0 : Int), Value.int IntKind.u8 (0 : Int), Value.int IntKind.u8 (0 : Int), Value.int IntKind.u8 (0 : Int), Value.int IntKind.u8 (0 : Int), Value.int IntKind.u8 (0 : Int), Value.int IntKind.u8 (0 : Int), Value.int IntKind.u8 (0 : Int), Value.int IntKind.u8 (0 : Int), Value.int IntKind.u8 (0 : Int), Value.int IntKind.u8 (0 : Int), Value.int IntKind.u8 (0 : Int), Value.int IntKind.u8 (0 : Int), Value.int IntKind.u8 (0 : Int), Value.int IntKind.u8 (0 : Int), Value.int IntKind.i64 (0 : Int)] := by kernel_rfl
theorem tab.a230 : SL.tagg Try.prog 230 = some true := by kernel_rfl
theorem tab.l230 : SL.tlit Try.prog 230 = some none := by kernel_rfl
theorem tab.u232 : Try.prog.underlying 232 = some (TypeDesc.struct #[{ name := "P", type := 144, offset := 0, embedded := false, tag := "", pkgPath := "", byteOffset := 0 }, { name := "ToA", type := 4, offset := 17, embedded := false, tag := "", pkgPath := "", byteOffset := 24 }]) := by kernel_rfl
theorem tab.s232 : SL.tsz Try.prog 232 = some 18 := by kernel_rfl
theorem tab.b232 : SL.tby Try.prog 232 = some 32 := by kernel_rfl
theorem tab.z232 : SL.tzero Try.prog 232 = some [Value.int IntKind.u8 (0 : Int), Value.int IntKind.u8 (0 : Int), Value.int IntKind.u8 (0 : Int), Value.int IntKind.u8 (0 : Int), Value.int IntKind.u8 (0 : Int), Value.int IntKind.u8 (0 : Int), Value.int IntKind.u8 (0 : Int), Value.int IntKind.u8 (0 : Int), Value.int IntKind.u8 (0 : Int), Value.int IntKind.u8 (0 : Int), Value.int IntKind.u8 (0 : Int), Value.int IntKind.u8 (0 : Int), Value.int IntKind.u8 (0 : Int), Value.int IntKind.u8 (0 : Int), Value.int IntKind.u8 (0 : Int), Value.int IntKind.u8 (0 : Int), Value.int IntKind.i64 (0 : Int), Value.bool false] := by kernel_rfl
theorem tab.a232 : SL.tagg Try.prog 232 = some true := by kernel_rfl
theorem tab.l232 : SL.tlit Try.prog 232 = some none := by kernel_rfl
theorem tab.u235 : Try.prog.underlying 235 = some (TypeDesc.struct #[{ name := "P", type := 144, offset := 0, embedded := false, tag := "", pkgPath := "", byteOffset := 0 }, { name := "ToA", type := 4, offset := 17, embedded := false, tag := "", pkgPath := "", byteOffset := 24 }, { name := "IDs", type := 79, offset := 18, embedded := false, tag := "", pkgPath := "", byteOffset := 32 }]) := by kernel_rfl
theorem tab.s235 : SL.tsz Try.prog 235 = some 19 := by kernel_rfl
theorem tab.b235 : SL.tby Try.prog 235 = some 56 := by kernel_rfl
theorem tab.z235 : SL.tzero Try.prog 235 = some [Value.int IntKind.u8 (0 : Int), Value.int IntKind.u8 (0 : Int), Value.int IntKind.u8 (0 : Int), Value.int IntKind.u8 (0 : Int), Value.int IntKind.u8 (0 : Int), Value.int IntKind.u8 (0 : Int), Value.int IntKind.u8 (0 : Int), Value.int IntKind.u8 (0 : Int), Value.int IntKind.u8 (0 : Int), Value.int IntKind.u8 (0 : Int), Value.int IntKind.u8 (0 : Int), Value.int IntKind.u8 (0 : Int), Value.int IntKind.u8 (0 : Int), Value.int IntKind.u8 (0 : Int), Value.int IntKind.u8 (0 : Int), Value.int IntKind.u8 (0 : Int), Value.int IntKind.i64 (0 : Int), Value.bool false, Value.slice none 0 0] := by kernel_rfl
theorem tab.a235 : SL.tagg Try.prog 235 = some true := by kernel_rfl
theorem tab.l235 : SL.tlit Try.prog 235 = some none := by kernel_rfl
theorem tab.u237 : Try.prog.underlying 237 = some (TypeDesc.struct #[{ name := "Who", type := 23, offset := 0, embedded := false, tag := "", pkgPath := "", byteOffset := 0 }, { name := "Want", type := 23, offset := 16, embedded := false, tag := "", pkgPath := "", byteOffset := 16 }, { name := "Leg", type := 3, offset := 32, embedded := false, tag := "", pkgPath := "", byteOffset := 32 }, { name := "P", type := 144, offset := 33, embedded := false, tag := "", pkgPath := "", byteOffset := 40 }, { name := "ToA", type := 4, offset := 50, embedded := false, tag := "", pkgPath := "", byteOffset := 64 }, { name := "Trail", type := 145, offset := 51, embedded := false, tag := "", pkgPath := "", byteOffset := 72 }]) := by kernel_rfl
theorem tab.s237 : SL.tsz Try.prog 237 = some 52 := by kernel_rfl
theorem tab.b237 : SL.tby Try.prog 237 = some 96 := by kernel_rfl
theorem tab.z237 : SL.tzero Try.prog 237 = some [Value.int IntKind.u8 (0 : Int), Value.int IntKind.u8 (0 : Int), Value.int IntKind.u8 (0 : Int), Value.int IntKind.u8 (0 : Int), Value.int IntKind.u8 (0 : Int), Value.int IntKind.u8 (0 : Int), Value.int IntKind.u8 (0 : Int), Value.int IntKind.u8 (0 : Int), Value.int IntKind.u8 (0 : Int), Value.int IntKind.u8 (0 : Int), Value.int IntKind.u8 (0 : Int), Value.int IntKind.u8 (0 : Int), Value.int IntKind.u8 (0 : Int), Value.int IntKind.u8 (0 : Int), Value.int IntKind.u8 (0 : Int), Value.int IntKind.u8 (0 : Int), Value.int IntKind.u8 (0 : Int), Value.int IntKind.u8 (0 : Int), Value.int IntKind.u8 (0 : Int), Value.int IntKind.u8 (0 : Int), Value.int IntKind.u8 (0 : Int), Value.int IntKind.u8 (0 : Int), Value.int IntKind.u8 (0 : Int), Value.int IntKind.u8 (0 : Int), Value.int IntKind.u8 (0 : Int), Value.int IntKind.u8 (0 : Int), Value.int IntKind.u8 (0 : Int), Value.int IntKind.u8 (0 : Int), Value.int IntKind.u8 (0 : Int), Value.int IntKind.u8 (0 : Int), Value.int IntKind.u8 (0 : Int), Value.int IntKind.u8 (0 : Int), Value.int IntKind.i64 (0 : Int), Value.int IntKind.u8 (0 : Int), Value.int IntKind.u8 (0 : Int), Value.int IntKind.u8 (0 : Int), Value.int IntKind.u8 (0 : Int), Value.int IntKind.u8 (0 : Int), Value.int IntKind.u8 (0 : Int), Value.int IntKind.u8 (0 : Int), Value.int IntKind.u8 (0 : Int), Value.int IntKind.u8 (0 : Int), Value.int IntKind.u8 (0 : Int), Value.int IntKind.u8 (0 : Int), Value.int IntKind.u8 (0 : Int), Value.int IntKind.u8 (0 : Int), Value.int IntKind.u8 (0 : Int), Value.int IntKind.u8 (0 : Int), Value.int IntKind.u8 (0 : Int), Value.int IntKind.i64 (0 : Int), Value.bool false, Value.slice none 0 0] := by kernel_rfl
theorem tab.a237 : SL.tagg Try.prog 237 = some true := by kernel_rfl
theorem tab.l237 : SL.tlit Try.prog 237 = some none := by kernel_rfl
theorem tab.u239 : Try.prog.underlying 239 = some (TypeDesc.struct #[{ name := "ID", type := 23, offset := 0, embedded := false, tag := "", pkgPath := "", byteOffset := 0 }, { name := "Far", type := 2, offset := 16, embedded := false, tag := "", pkgPath := "", byteOffset := 16 }]) := by kernel_rfl
theorem tab.s239 : SL.tsz Try.prog 239 = some 17 := by kernel_rfl
theorem tab.b239 : SL.tby Try.prog 239 = some 24 := by kernel_rfl
theorem tab.z239 : SL.tzero Try.prog 239 = some [Value.int IntKind.u8 (0 : Int), Value.int IntKind.u8 (0 : Int), Value.int IntKind.u8 (0 : Int), Value.int IntKind.u8 (0 : Int), Value.int IntKind.u8 (0 : Int), Value.int IntKind.u8 (0 : Int), Value.int IntKind.u8 (0 : Int), Value.int IntKind.u8 (0 : Int), Value.int IntKind.u8 (0 : Int), Value.int IntKind.u8 (0 : Int), Value.int IntKind.u8 (0 : Int), Value.int IntKind.u8 (0 : Int), Value.int IntKind.u8 (0 : Int), Value.int IntKind.u8 (0 : Int), Value.int IntKind.u8 (0 : Int), Value.int IntKind.u8 (0 : Int), Value.int IntKind.i64 (0 : Int)] := by kernel_rfl
theorem tab.a239 : SL.tagg Try.prog 239 = some true := by kernel_rfl
theorem tab.l239 : SL.tlit Try.prog 239 = some none := by kernel_rfl
theorem tab.u241 : Try.prog.underlying 241 = some (TypeDesc.struct #[{ name := "Src", type := 23, offset := 0, embedded := false, tag := "", pkgPath := "", byteOffset := 0 }, { name := "Dst", type := 23, offset := 16, embedded := false, tag := "", pkgPath := "", byteOffset := 16 }, { name := "Req", type := 2, offset := 32, embedded := false, tag := "", pkgPath := "", byteOffset := 32 }, { name := "Op", type := 3, offset := 33, embedded := false, tag := "", pkgPath := "", byteOffset := 40 }, { name := "TTL", type := 3, offset := 34, embedded := false, tag := "", pkgPath := "", byteOffset := 48 }, { name := "Item", type := 149, offset := 35, embedded := false, tag := "", pkgPath := "", byteOffset := 56 }, { name := "Text", type := 35, offset := 69, embedded := false, tag := "", pkgPath := "", byteOffset := 120 }]) := by kernel_rfl
theorem tab.s241 : SL.tsz Try.prog 241 = some 70 := by kernel_rfl
theorem tab.b241 : SL.tby Try.prog 241 = some 144 := by kernel_rfl
theorem tab.z241 : SL.tzero Try.prog 241 = some [Value.int IntKind.u8 (0 : Int), Value.int IntKind.u8 (0 : Int), Value.int IntKind.u8 (0 : Int), Value.int IntKind.u8 (0 : Int), Value.int IntKind.u8 (0 : Int), Value.int IntKind.u8 (0 : Int), Value.int IntKind.u8 (0 : Int), Value.int IntKind.u8 (0 : Int), Value.int IntKind.u8 (0 : Int), Value.int IntKind.u8 (0 : Int), Value.int IntKind.u8 (0 : Int), Value.int IntKind.u8 (0 : Int), Value.int IntKind.u8 (0 : Int), Value.int IntKind.u8 (0 : Int), Value.int IntKind.u8 (0 : Int), Value.int IntKind.u8 (0 : Int), Value.int IntKind.u8 (0 : Int), Value.int IntKind.u8 (0 : Int), Value.int IntKind.u8 (0 : Int), Value.int IntKind.u8 (0 : Int), Value.int IntKind.u8 (0 : Int), Value.int IntKind.u8 (0 : Int), Value.int IntKind.u8 (0 : Int), Value.int IntKind.u8 (0 : Int), Value.int IntKind.u8 (0 : Int), Value.int IntKind.u8 (0 : Int), Value.int IntKind.u8 (0 : Int), Value.int IntKind.u8 (0 : Int), Value.int IntKind.u8 (0 : Int), Value.int IntKind.u8 (0 : Int), Value.int IntKind.u8 (0 : Int), Value.int IntKind.u8 (0 : Int), Value.int IntKind.i64 (0 : Int), Value.int IntKind.i64 (0 : Int), Value.int IntKind.i64 (0 : Int), Value.int IntKind.u8 (0 : Int), Value.int IntKind.u8 (0 : Int), Value.int IntKind.u8 (0 : Int), Value.int IntKind.u8 (0 : Int), Value.int IntKind.u8 (0 : Int), Value.int IntKind.u8 (0 : Int), Value.int IntKind.u8 (0 : Int), Value.int IntKind.u8 (0 : Int), Value.int IntKind.u8 (0 : Int), Value.int IntKind.u8 (0 : Int), Value.int IntKind.u8 (0 : Int), Value.int IntKind.u8 (0 : Int), Value.int IntKind.u8 (0 : Int), Value.int IntKind.u8 (0 : Int), Value.int IntKind.u8 (0 : Int), Value.int IntKind.u8 (0 : Int), Value.int IntKind.i64 (0 : Int), Value.int IntKind.u8 (0 : Int), Value.int IntKind.u8 (0 : Int), Value.int IntKind.u8 (0 : Int), Value.int IntKind.u8 (0 : Int), Value.int IntKind.u8 (0 : Int), Value.int IntKind.u8 (0 : Int), Value.int IntKind.u8 (0 : Int), Value.int IntKind.u8 (0 : Int), Value.int IntKind.u8 (0 : Int), Value.int IntKind.u8 (0 : Int), Value.int IntKind.u8 (0 : Int), Value.int IntKind.u8 (0 : Int), Value.int IntKind.u8 (0 : Int), Value.int IntKind.u8 (0 : Int), Value.int IntKind.u8 (0 : Int), Value.int IntKind.u8 (0 : Int), Value.slice none 0 0, Value.slice none 0 0] := by kernel_rfl
theorem tab.a241 : SL.tagg Try.prog 241 = some true := by kernel_rfl
theorem tab.l241 : SL.tlit Try.prog 241 = some none := by kernel_rfl
theorem tab.u244 : Try.prog.underlying 244 = some (TypeDesc.struct #[{ name := "P", type := 144, offset := 0, embedded := false, tag := "", pkgPath := "", byteOffset := 0 }, { name := "ToA", type := 4, offset := 17, embedded := false, tag := "", pkgPath := "", byteOffset := 24 }, { name := "Item", type := 149, offset := 18, embedded := false, tag := "", pkgPath := "", byteOffset := 32 }]) := by kernel_rfl
theorem tab.s244 : SL.tsz Try.prog 244 = some 52 := by kernel_rfl
theorem tab.b244 : SL.tby Try.prog 244 = some 96 := by kernel_rfl
theorem tab.z244 : SL.tzero Try.prog 244 = some [Value.int IntKind.u8 (0 : Int), Value.int IntKind.u8 (0 : Int), Value.int IntKind.u8 (0 : Int), Value.int IntKind.u8 (0 : Int), Value.int IntKind.u8 (0 : Int), Value.int IntKind.u8 (0 : Int), Value.int IntKind.u8 (0 : Int), Value.int IntKind.u8 (0 : Int), Value.int IntKind.u8 (0 : Int), Value.int IntKind.u8 (0 : Int), Value.int IntKind.u8 (0 : Int), Value.int IntKind.u8 (0 : Int), Value.int IntKind.u8 (0 : Int), Value.int IntKind.u8 (0 : Int), Value.int IntKind.u8 (0 : Int), Value.int IntKind.u8 (0 : Int), Value.int IntKind.i64 (0 : Int), Value.bool false, Value.int IntKind.u8 (0 : Int), Value.int IntKind.u8 (0 : Int), Value.int IntKind.u8 (0 : Int), Value.int IntKind.u8 (0 : Int), Value.int IntKind.u8 (0 : Int), Value.int IntKind.u8 (0 : Int), Value.int IntKind.u8 (0 : Int), Value.int IntKind.u8 (0 : Int), Value.int IntKind.u8 (0 : Int), Value.int IntKind.u8 (0 : Int), Value.int IntKind.u8 (0 : Int), Value.int IntKind.u8 (0 : Int), Value.int IntKind.u8 (0 : Int), Value.int IntKind.u8 (0 : Int), Value.int IntKind.u8 (0 : Int), Value.int IntKind.u8 (0 : Int), Value.int IntKind.i64 (0 : Int), Value.int IntKind.u8 (0 : Int), Value.int IntKind.u8 (0 : Int), Value.int IntKind.u8 (0 : Int), Value.int IntKind.u8 (0 : Int), Value.int IntKind.u8 (0 : Int), Value.int IntKind.u8 (0 : Int), Value.int IntKind.u8 (0 : Int), Value.int IntKind.u8 (0 : Int), Value.int IntKind.u8 (0 : Int), Value.int IntKind.u8 (0 : Int), Value.int IntKind.u8 (0 : Int), Value.int IntKind.u8 (0 : Int), Value.int IntKind.u8 (0 : Int), Value.int IntKind.u8 (0 : Int), Value.int IntKind.u8 (0 : Int), Value.int IntKind.u8 (0 : Int), Value.slice none 0 0] := by kernel_rfl
theorem tab.a244 : SL.tagg Try.prog 244 = some true := by kernel_rfl
theorem tab.l244 : SL.tlit Try.prog 244 = some none := by kernel_rfl
theorem tab.u246 : Try.prog.underlying 246 = some (TypeDesc.struct #[{ name := "P", type := 144, offset := 0, embedded := false, tag := "", pkgPath := "", byteOffset := 0 }, { name := "ToA", type := 4, offset := 17, embedded := false, tag := "", pkgPath := "", byteOffset := 24 }, { name := "Key", type := 23, offset := 18, embedded := false, tag := "", pkgPath := "", byteOffset := 25 }, { name := "Ver", type := 147, offset := 34, embedded := false, tag := "", pkgPath := "", byteOffset := 48 }]) := by kernel_rfl
theorem tab.s246 : SL.tsz Try.prog 246 = some 51 := by kernel_rfl
theorem tab.b246 : SL.tby Try.prog 246 = some 72 := by kernel_rfl
theorem tab.z246 : SL.tzero Try.prog 246 = some [Value.int IntKind.u8 (0 : Int), Value.int IntKind.u8 (0 : Int), Value.int IntKind.u8 (0 : Int), Value.int IntKind.u8 (0 : Int), Value.int IntKind.u8 (0 : Int), Value.int IntKind.u8 (0 : Int), Value.int IntKind.u8 (0 : Int), Value.int IntKind.u8 (0 : Int), Value.int IntKind.u8 (0 : Int), Value.int IntKind.u8 (0 : Int), Value.int IntKind.u8 (0 : Int), Value.int IntKind.u8 (0 : Int), Value.int IntKind.u8 (0 : Int), Value.int IntKind.u8 (0 : Int), Value.int IntKind.u8 (0 : Int), Value.int IntKind.u8 (0 : Int), Value.int IntKind.i64 (0 : Int), Value.bool false, Value.int IntKind.u8 (0 : Int), Value.int IntKind.u8 (0 : Int), Value.int IntKind.u8 (0 : Int), Value.int IntKind.u8 (0 : Int), Value.int IntKind.u8 (0 : Int), Value.int IntKind.u8 (0 : Int), Value.int IntKind.u8 (0 : Int), Value.int IntKind.u8 (0 : Int), Value.int IntKind.u8 (0 : Int), Value.int IntKind.u8 (0 : Int), Value.int IntKind.u8 (0 : Int), Value.int IntKind.u8 (0 : Int), Value.int IntKind.u8 (0 : Int), Value.int IntKind.u8 (0 : Int), Value.int IntKind.u8 (0 : Int), Value.int IntKind.u8 (0 : Int), Value.int IntKind.i64 (0 : Int), Value.int IntKind.u8 (0 : Int), Value.int IntKind.u8 (0 : Int), Value.int IntKind.u8 (0 : Int), Value.int IntKind.u8 (0 : Int), Value.int IntKind.u8 (0 : Int), Value.int IntKind.u8 (0 : Int), Value.int IntKind.u8 (0 : Int), Value.int IntKind.u8 (0 : Int), Value.int IntKind.u8 (0 : Int), Value.int IntKind.u8 (0 : Int), Value.int IntKind.u8 (0 : Int), Value.int IntKind.u8 (0 : Int), Value.int IntKind.u8 (0 : Int), Value.int IntKind.u8 (0 : Int), Value.int IntKind.u8 (0 : Int), Value.int IntKind.u8 (0 : Int)] := by kernel_rfl
theorem tab.a246 : SL.tagg Try.prog 246 = some true := by kernel_rfl
theorem tab.l246 : SL.tlit Try.prog 246 = some none := by kernel_rfl
theorem tab.u249 : Try.prog.underlying 249 = some (TypeDesc.pointer 251) := by kernel_rfl
theorem tab.s249 : SL.tsz Try.prog 249 = some 1 := by kernel_rfl
theorem tab.b249 : SL.tby Try.prog 249 = some 8 := by kernel_rfl
theorem tab.z249 : SL.tzero Try.prog 249 = some [Value.pointer none] := by kernel_rfl
theorem tab.a249 : SL.tagg Try.prog 249 = some false := by kernel_rfl
theorem tab.u251 : Try.prog.underlying 251 = some (TypeDesc.struct #[{ name := "b", type := 35, offset := 0, embedded := false, tag := "", pkgPath := "annulet/frame", byteOffset := 0 }, { name := "at", type := 3, offset := 1, embedded := false, tag := "", pkgPath := "annulet/frame", byteOffset := 24 }]) := by kernel_rfl
theorem tab.s251 : SL.tsz Try.prog 251 = some 2 := by kernel_rfl
theorem tab.b251 : SL.tby Try.prog 251 = some 32 := by kernel_rfl
theorem tab.z251 : SL.tzero Try.prog 251 = some [Value.slice none 0 0, Value.int IntKind.i64 (0 : Int)] := by kernel_rfl
theorem tab.a251 : SL.tagg Try.prog 251 = some true := by kernel_rfl
theorem tab.l251 : SL.tlit Try.prog 251 = some none := by kernel_rfl
theorem tab.u260 : Try.prog.underlying 260 = some (TypeDesc.pointer 262) := by kernel_rfl
theorem tab.s260 : SL.tsz Try.prog 260 = some 1 := by kernel_rfl
theorem tab.b260 : SL.tby Try.prog 260 = some 8 := by kernel_rfl
theorem tab.z260 : SL.tzero Try.prog 260 = some [Value.pointer none] := by kernel_rfl
theorem tab.a260 : SL.tagg Try.prog 260 = some false := by kernel_rfl
theorem tab.u262 : Try.prog.underlying 262 = some (TypeDesc.struct #[{ name := "b", type := 35, offset := 0, embedded := false, tag := "", pkgPath := "annulet/annuletref04", byteOffset := 0 }, { name := "at", type := 3, offset := 1, embedded := false, tag := "", pkgPath := "annulet/annuletref04", byteOffset := 24 }, { name := "e", type := 37, offset := 2, embedded := false, tag := "", pkgPath := "annulet/annuletref04", byteOffset := 32 }]) := by kernel_rfl
theorem tab.s262 : SL.tsz Try.prog 262 = some 3 := by kernel_rfl
theorem tab.b262 : SL.tby Try.prog 262 = some 40 := by kernel_rfl
theorem tab.z262 : SL.tzero Try.prog 262 = some [Value.slice none 0 0, Value.int IntKind.i64 (0 : Int), Value.int IntKind.i64 (0 : Int)] := by kernel_rfl
theorem tab.a262 : SL.tagg Try.prog 262 = some true := by kernel_rfl
theorem tab.l262 : SL.tlit Try.prog 262 = some none := by kernel_rfl
theorem tab.f26x0 : SL.tfield Try.prog 26 0 = some (3, 0, 1) := by kernel_rfl
theorem tab.f26x1 : SL.tfield Try.prog 26 1 = some (23, 1, 16) := by kernel_rfl
theorem tab.f26x2 : SL.tfield Try.prog 26 2 = some (2, 17, 1) := by kernel_rfl
theorem tab.f28x0 : SL.tfield Try.prog 28 0 = some (3, 0, 1) := by kernel_rfl
theorem tab.f28x1 : SL.tfield Try.prog 28 1 = some (23, 1, 16) := by kernel_rfl
theorem tab.f28x2 : SL.tfield Try.prog 28 2 = some (2, 17, 1) := by kernel_rfl
theorem tab.f54x0 : SL.tfield Try.prog 54 0 = some (44, 0, 1) := by kernel_rfl
theorem tab.f54x1 : SL.tfield Try.prog 54 1 = some (2, 1, 1) := by kernel_rfl
theorem tab.f54x2 : SL.tfield Try.prog 54 2 = some (2, 2, 1) := by kernel_rfl
theorem tab.f56x0 : SL.tfield Try.prog 56 0 = some (3, 0, 1) := by kernel_rfl
theorem tab.f56x1 : SL.tfield Try.prog 56 1 = some (2, 1, 1) := by kernel_rfl
theorem tab.f56x2 : SL.tfield Try.prog 56 2 = some (35, 2, 1) := by kernel_rfl
theorem tab.f72x0 : SL.tfield Try.prog 72 0 = some (3, 0, 1) := by kernel_rfl
theorem tab.f72x1 : SL.tfield Try.prog 72 1 = some (3, 1, 1) := by kernel_rfl
theorem tab.f74x0 : SL.tfield Try.prog 74 0 = some (2, 0, 1) := by kernel_rfl
theorem tab.f74x1 : SL.tfield Try.prog 74 1 = some (9, 1, 1) := by kernel_rfl
theorem tab.f83x0 : SL.tfield Try.prog 83 0 = some (79, 0, 1) := by kernel_rfl
theorem tab.f83x1 : SL.tfield Try.prog 83 1 = some (80, 1, 1) := by kernel_rfl
theorem tab.f83x2 : SL.tfield Try.prog 83 2 = some (81, 2, 1) := by kernel_rfl
theorem tab.f130x0 : SL.tfield Try.prog 130 0 = some (123, 0, 2) := by kernel_rfl
theorem tab.f130x1 : SL.tfield Try.prog 130 1 = some (125, 2, 2) := by kernel_rfl
theorem tab.f130x2 : SL.tfield Try.prog 130 2 = some (126, 4, 2) := by kernel_rfl
theorem tab.f130x3 : SL.tfield Try.prog 130 3 = some (128, 6, 2) := by kernel_rfl
theorem tab.f130x4 : SL.tfield Try.prog 130 4 = some (128, 8, 2) := by kernel_rfl
theorem tab.f132x0 : SL.tfield Try.prog 132 0 = some (3, 0, 1) := by kernel_rfl
theorem tab.f132x1 : SL.tfield Try.prog 132 1 = some (3, 1, 1) := by kernel_rfl
theorem tab.f132x2 : SL.tfield Try.prog 132 2 = some (3, 2, 1) := by kernel_rfl
theorem tab.f132x3 : SL.tfield Try.prog 132 3 = some (35, 3, 1) := by kernel_rfl
theorem tab.f135x0 : SL.tfield Try.prog 135 0 = some (2, 0, 1) := by kernel_rfl
theorem tab.f135x1 : SL.tfield Try.prog 135 1 = some (2, 1, 1) := by kernel_rfl
theorem tab.f137x0 : SL.tfield Try.prog 137 0 = some (135, 0, 2) := by kernel_rfl
theorem tab.f137x1 : SL.tfield Try.prog 137 1 = some (135, 2, 2) := by kernel_rfl
theorem tab.f137x2 : SL.tfield Try.prog 137 2 = some (9, 4, 1) := by kernel_rfl
theorem tab.f142x0 : SL.tfield Try.prog 142 0 = some (23, 0, 16) := by kernel_rfl
theorem tab.f142x1 : SL.tfield Try.prog 142 1 = some (4, 16, 1) := by kernel_rfl
theorem tab.f142x2 : SL.tfield Try.prog 142 2 = some (4, 17, 1) := by kernel_rfl
theorem tab.f142x3 : SL.tfield Try.prog 142 3 = some (135, 18, 2) := by kernel_rfl
theorem tab.f142x4 : SL.tfield Try.prog 142 4 = some (135, 20, 2) := by kernel_rfl
theorem tab.f142x5 : SL.tfield Try.prog 142 5 = some (23, 22, 16) := by kernel_rfl
theorem tab.f142x6 : SL.tfield Try.prog 142 6 = some (54, 38, 3) := by kernel_rfl
theorem tab.f144x0 : SL.tfield Try.prog 144 0 = some (23, 0, 16) := by kernel_rfl
theorem tab.f144x1 : SL.tfield Try.prog 144 1 = some (2, 16, 1) := by kernel_rfl
theorem tab.f147x0 : SL.tfield Try.prog 147 0 = some (2, 0, 1) := by kernel_rfl
theorem tab.f147x1 : SL.tfield Try.prog 147 1 = some (23, 1, 16) := by kernel_rfl
theorem tab.f149x0 : SL.tfield Try.prog 149 0 = some (23, 0, 16) := by kernel_rfl
theorem tab.f149x1 : SL.tfield Try.prog 149 1 = some (147, 16, 17) := by kernel_rfl
theorem tab.f149x2 : SL.tfield Try.prog 149 2 = some (35, 33, 1) := by kernel_rfl
theorem tab.f151x0 : SL.tfield Try.prog 151 0 = some (3, 0, 1) := by kernel_rfl
theorem tab.f151x1 : SL.tfield Try.prog 151 1 = some (144, 1, 17) := by kernel_rfl
theorem tab.f151x2 : SL.tfield Try.prog 151 2 = some (4, 18, 1) := by kernel_rfl
theorem tab.f151x3 : SL.tfield Try.prog 151 3 = some (23, 19, 16) := by kernel_rfl
theorem tab.f151x4 : SL.tfield Try.prog 151 4 = some (23, 35, 16) := by kernel_rfl
theorem tab.f151x5 : SL.tfield Try.prog 151 5 = some (2, 51, 1) := by kernel_rfl
theorem tab.f151x6 : SL.tfield Try.prog 151 6 = some (135, 52, 2) := by kernel_rfl
theorem tab.f151x7 : SL.tfield Try.prog 151 7 = some (135, 54, 2) := by kernel_rfl
theorem tab.f151x8 : SL.tfield Try.prog 151 8 = some (145, 56, 1) := by kernel_rfl
theorem tab.f151x9 : SL.tfield Try.prog 151 9 = some (79, 57, 1) := by kernel_rfl
theorem tab.f151x10 : SL.tfield Try.prog 151 10 = some (149, 58, 34) := by kernel_rfl
theorem tab.f151x11 : SL.tfield Try.prog 151 11 = some (3, 92, 1) := by kernel_rfl
theorem tab.f151x12 : SL.tfield Try.prog 151 12 = some (3, 93, 1) := by kernel_rfl
theorem tab.f151x13 : SL.tfield Try.prog 151 13 = some (35, 94, 1) := by kernel_rfl
theorem tab.f153x0 : SL.tfield Try.prog 153 0 = some (3, 0, 1) := by kernel_rfl
theorem tab.f153x1 : SL.tfield Try.prog 153 1 = some (135, 1, 2) := by kernel_rfl
theorem tab.f153x2 : SL.tfield Try.prog 153 2 = some (35, 3, 1) := by kernel_rfl
theorem tab.f153x3 : SL.tfield Try.prog 153 3 = some (151, 4, 95) := by kernel_rfl
theorem tab.f162x0 : SL.tfield Try.prog 162 0 = some (4, 0, 1) := by kernel_rfl
theorem tab.f162x1 : SL.tfield Try.prog 162 1 = some (4, 1, 1) := by kernel_rfl
theorem tab.f162x2 : SL.tfield Try.prog 162 2 = some (35, 2, 1) := by kernel_rfl
theorem tab.f162x3 : SL.tfield Try.prog 162 3 = some (4, 3, 1) := by kernel_rfl
theorem tab.f162x4 : SL.tfield Try.prog 162 4 = some (124, 4, 1) := by kernel_rfl
theorem tab.f165x0 : SL.tfield Try.prog 165 0 = some (4, 0, 1) := by kernel_rfl
theorem tab.f165x1 : SL.tfield Try.prog 165 1 = some (4, 1, 1) := by kernel_rfl
theorem tab.f165x2 : SL.tfield Try.prog 165 2 = some (35, 2, 1) := by kernel_rfl
theorem tab.f165x3 : SL.tfield Try.prog 165 3 = some (4, 3, 1) := by kernel_rfl
theorem tab.f165x4 : SL.tfield Try.prog 165 4 = some (124, 4, 1) := by kernel_rfl
theorem tab.f197x0 : SL.tfield Try.prog 197 0 = some (2, 0, 1) := by kernel_rfl
theorem tab.f197x1 : SL.tfield Try.prog 197 1 = some (44, 1, 1) := by kernel_rfl
theorem tab.f197x2 : SL.tfield Try.prog 197 2 = some (2, 2, 1) := by kernel_rfl
theorem tab.f204x0 : SL.tfield Try.prog 204 0 = some (23, 0, 16) := by kernel_rfl
theorem tab.f204x1 : SL.tfield Try.prog 204 1 = some (4, 16, 1) := by kernel_rfl
theorem tab.f204x2 : SL.tfield Try.prog 204 2 = some (4, 17, 1) := by kernel_rfl
theorem tab.f204x3 : SL.tfield Try.prog 204 3 = some (135, 18, 2) := by kernel_rfl
theorem tab.f204x4 : SL.tfield Try.prog 204 4 = some (135, 20, 2) := by kernel_rfl
theorem tab.f204x5 : SL.tfield Try.prog 204 5 = some (23, 22, 16) := by kernel_rfl
theorem tab.f204x6 : SL.tfield Try.prog 204 6 = some (50, 38, 1) := by kernel_rfl
theorem tab.f210x0 : SL.tfield Try.prog 210 0 = some (135, 0, 2) := by kernel_rfl
theorem tab.f210x1 : SL.tfield Try.prog 210 1 = some (135, 2, 2) := by kernel_rfl
theorem tab.f210x2 : SL.tfield Try.prog 210 2 = some (2, 4, 1) := by kernel_rfl
theorem tab.f210x3 : SL.tfield Try.prog 210 3 = some (35, 5, 1) := by kernel_rfl
theorem tab.f214x0 : SL.tfield Try.prog 214 0 = some (135, 0, 2) := by kernel_rfl
theorem tab.f214x1 : SL.tfield Try.prog 214 1 = some (135, 2, 2) := by kernel_rfl
theorem tab.f214x2 : SL.tfield Try.prog 214 2 = some (23, 4, 16) := by kernel_rfl
theorem tab.f218x0 : SL.tfield Try.prog 218 0 = some (135, 0, 2) := by kernel_rfl
theorem tab.f218x1 : SL.tfield Try.prog 218 1 = some (135, 2, 2) := by kernel_rfl
theorem tab.f218x2 : SL.tfield Try.prog 218 2 = some (2, 4, 1) := by kernel_rfl
theorem tab.f222x0 : SL.tfield Try.prog 222 0 = some (35, 0, 1) := by kernel_rfl
theorem tab.f226x0 : SL.tfield Try.prog 226 0 = some (144, 0, 17) := by kernel_rfl
theorem tab.f226x1 : SL.tfield Try.prog 226 1 = some (23, 17, 16) := by kernel_rfl
theorem tab.f226x2 : SL.tfield Try.prog 226 2 = some (23, 33, 16) := by kernel_rfl
theorem tab.f226x3 : SL.tfield Try.prog 226 3 = some (145, 49, 1) := by kernel_rfl
theorem tab.f230x0 : SL.tfield Try.prog 230 0 = some (144, 0, 17) := by kernel_rfl
theorem tab.f232x0 : SL.tfield Try.prog 232 0 = some (144, 0, 17) := by kernel_rfl
theorem tab.f232x1 : SL.tfield Try.prog 232 1 = some (4, 17, 1) := by kernel_rfl
theorem tab.f235x0 : SL.tfield Try.prog 235 0 = some (144, 0, 17) := by kernel_rfl
theorem tab.f235x1 : SL.tfield Try.prog 235 1 = some (4, 17, 1) := by kernel_rfl
theorem tab.f235x2 : SL.tfield Try.prog 235 2 = some (79, 18, 1) := by kernel_rfl
theorem tab.f237x0 : SL.tfield Try.prog 237 0 = some (23, 0, 16) := by kernel_rfl
theorem tab.f237x1 : SL.tfield Try.prog 237 1 = some (23, 16, 16) := by kernel_rfl
theorem tab.f237x2 : SL.tfield Try.prog 237 2 = some (3, 32, 1) := by kernel_rfl
theorem tab.f237x3 : SL.tfield Try.prog 237 3 = some (144, 33, 17) := by kernel_rfl
theorem tab.f237x4 : SL.tfield Try.prog 237 4 = some (4, 50, 1) := by kernel_rfl
theorem tab.f237x5 : SL.tfield Try.prog 237 5 = some (145, 51, 1) := by kernel_rfl
theorem tab.f239x0 : SL.tfield Try.prog 239 0 = some (23, 0, 16) := by kernel_rfl
theorem tab.f239x1 : SL.tfield Try.prog 239 1 = some (2, 16, 1) := by kernel_rfl
theorem tab.f241x0 : SL.tfield Try.prog 241 0 = some (23, 0, 16) := by kernel_rfl
theorem tab.f241x1 : SL.tfield Try.prog 241 1 = some (23, 16, 16) := by kernel_rfl
theorem tab.f241x2 : SL.tfield Try.prog 241 2 = some (2, 32, 1) := by kernel_rfl
theorem tab.f241x3 : SL.tfield Try.prog 241 3 = some (3, 33, 1) := by kernel_rfl
theorem tab.f241x4 : SL.tfield Try.prog 241 4 = some (3, 34, 1) := by kernel_rfl
theorem tab.f241x5 : SL.tfield Try.prog 241 5 = some (149, 35, 34) := by kernel_rfl
theorem tab.f241x6 : SL.tfield Try.prog 241 6 = some (35, 69, 1) := by kernel_rfl
theorem tab.f244x0 : SL.tfield Try.prog 244 0 = some (144, 0, 17) := by kernel_rfl
theorem tab.f244x1 : SL.tfield Try.prog 244 1 = some (4, 17, 1) := by kernel_rfl
theorem tab.f244x2 : SL.tfield Try.prog 244 2 = some (149, 18, 34) := by kernel_rfl
theorem tab.f246x0 : SL.tfield Try.prog 246 0 = some (144, 0, 17) := by kernel_rfl
theorem tab.f246x1 : SL.tfield Try.prog 246 1 = some (4, 17, 1) := by kernel_rfl
theorem tab.f246x2 : SL.tfield Try.prog 246 2 = some (23, 18, 16) := by kernel_rfl
theorem tab.f246x3 : SL.tfield Try.prog 246 3 = some (147, 34, 17) := by kernel_rfl
theorem tab.f251x0 : SL.tfield Try.prog 251 0 = some (35, 0, 1) := by kernel_rfl
theorem tab.f251x1 : SL.tfield Try.prog 251 1 = some (3, 1, 1) := by kernel_rfl
theorem tab.f262x0 : SL.tfield Try.prog 262 0 = some (35, 0, 1) := by kernel_rfl
theorem tab.f262x1 : SL.tfield Try.prog 262 1 = some (3, 1, 1) := by kernel_rfl
theorem tab.f262x2 : SL.tfield Try.prog 262 2 = some (37, 2, 1) := by kernel_rfl

end Go.Proofs
