import Derived.Test.YtjpoanaoaeaneaaGreatDoorGE13
import Derived.Test.YtjpoanaoaeaneaaGreatDoorProg
import Derived.KernelRfl
set_option linter.all false
namespace Go.Proofs.YtjpoanaoaeaneaaGreatDoor
open Go.RowKit
@[simp] theorem ty0 : tyOf Tryz.prog 0 = some (false, 1) := by kernel_rfl
@[simp] theorem zav0 : zAV Tryz.prog 0 [Value.tuple #[]] = [.lit (Value.tuple #[])] := by kernel_rfl
@[simp] theorem z0 : zeroOf Tryz.prog 0 = some [Value.tuple #[]] := by kernel_rfl
@[simp] theorem pl0 : placesOf Tryz.prog 0 = none := by kernel_rfl
@[simp] theorem ty1 : tyOf Tryz.prog 1 = some (false, 1) := by kernel_rfl
@[simp] theorem zav1 : zAV Tryz.prog 1 [Value.nilFunc] = [.lit (Value.nilFunc)] := by kernel_rfl
@[simp] theorem z1 : zeroOf Tryz.prog 1 = some [Value.nilFunc] := by kernel_rfl
@[simp] theorem pl1 : placesOf Tryz.prog 1 = none := by kernel_rfl
@[simp] theorem ty2 : tyOf Tryz.prog 2 = some (false, 1) := by kernel_rfl
@[simp] theorem zav2 : zAV Tryz.prog 2 [Value.int IntKind.i64 0] = [.lit (Value.int IntKind.i64 0)] := by kernel_rfl
@[simp] theorem z2 : zeroOf Tryz.prog 2 = some [Value.int IntKind.i64 0] := by kernel_rfl
@[simp] theorem pl2 : placesOf Tryz.prog 2 = none := by kernel_rfl
@[simp] theorem in2 : intT Tryz.prog 2 = some .i64 := by kernel_rfl
@[simp] theorem un2 : Tryz.prog.underlying 2 = some (.int .i64) := by kernel_rfl
@[simp] theorem ty3 : tyOf Tryz.prog 3 = some (false, 1) := by kernel_rfl
@[simp] theorem zav3 : zAV Tryz.prog 3 [Value.int IntKind.i64 0] = [.lit (Value.int IntKind.i64 0)] := by kernel_rfl
@[simp] theorem z3 : zeroOf Tryz.prog 3 = some [Value.int IntKind.i64 0] := by kernel_rfl
@[simp] theorem pl3 : placesOf Tryz.prog 3 = none := by kernel_rfl
@[simp] theorem in3 : intT Tryz.prog 3 = some .i64 := by kernel_rfl
@[simp] theorem un3 : Tryz.prog.underlying 3 = some (.int .i64) := by kernel_rfl
@[simp] theorem ty4 : tyOf Tryz.prog 4 = some (false, 1) := by kernel_rfl
@[simp] theorem zav4 : zAV Tryz.prog 4 [Value.bool false] = [.lit (Value.bool false)] := by kernel_rfl
@[simp] theorem z4 : zeroOf Tryz.prog 4 = some [Value.bool false] := by kernel_rfl
@[simp] theorem pl4 : placesOf Tryz.prog 4 = none := by kernel_rfl
@[simp] theorem bo4 : boolT Tryz.prog 4 = true := by kernel_rfl
@[simp] theorem ty5 : tyOf Tryz.prog 5 = some (false, 1) := by kernel_rfl
@[simp] theorem zav5 : zAV Tryz.prog 5 [Value.int IntKind.u8 0] = [.lit (Value.int IntKind.u8 0)] := by kernel_rfl
@[simp] theorem z5 : zeroOf Tryz.prog 5 = some [Value.int IntKind.u8 0] := by kernel_rfl
@[simp] theorem pl5 : placesOf Tryz.prog 5 = none := by kernel_rfl
@[simp] theorem in5 : intT Tryz.prog 5 = some .u8 := by kernel_rfl
@[simp] theorem un5 : Tryz.prog.underlying 5 = some (.int .u8) := by kernel_rfl
@[simp] theorem ty6 : tyOf Tryz.prog 6 = some (false, 1) := by kernel_rfl
@[simp] theorem zav6 : zAV Tryz.prog 6 [Value.int IntKind.u8 0] = [.lit (Value.int IntKind.u8 0)] := by kernel_rfl
@[simp] theorem z6 : zeroOf Tryz.prog 6 = some [Value.int IntKind.u8 0] := by kernel_rfl
@[simp] theorem pl6 : placesOf Tryz.prog 6 = none := by kernel_rfl
@[simp] theorem in6 : intT Tryz.prog 6 = some .u8 := by kernel_rfl
@[simp] theorem un6 : Tryz.prog.underlying 6 = some (.int .u8) := by kernel_rfl
@[simp] theorem ty7 : tyOf Tryz.prog 7 = some (true, 4) := by kernel_rfl
@[simp] theorem zav7 : zAV Tryz.prog 7 [Value.int IntKind.i64 0, Value.int IntKind.i64 0, Value.bool false, Value.int IntKind.u8 0] = [.lit (Value.int IntKind.i64 0), .lit (Value.int IntKind.i64 0), .lit (Value.bool false), .lit (Value.int IntKind.u8 0)] := by kernel_rfl
@[simp] theorem z7 : zeroOf Tryz.prog 7 = some [Value.int IntKind.i64 0, Value.int IntKind.i64 0, Value.bool false, Value.int IntKind.u8 0] := by kernel_rfl
@[simp] theorem fld7_0 : fldOf Tryz.prog 7 0 = some (0, false, 1) := by kernel_rfl
@[simp] theorem fld7_1 : fldOf Tryz.prog 7 1 = some (1, false, 1) := by kernel_rfl
@[simp] theorem fld7_2 : fldOf Tryz.prog 7 2 = some (2, false, 1) := by kernel_rfl
@[simp] theorem fld7_3 : fldOf Tryz.prog 7 3 = some (3, false, 1) := by kernel_rfl
@[simp] theorem pl7 : placesOf Tryz.prog 7 = some [(0, 1), (1, 1), (2, 1), (3, 1)] := by kernel_rfl
@[simp] theorem ty8 : tyOf Tryz.prog 8 = some (true, 4) := by kernel_rfl
@[simp] theorem zav8 : zAV Tryz.prog 8 [Value.int IntKind.i64 0, Value.int IntKind.i64 0, Value.bool false, Value.int IntKind.u8 0] = [.lit (Value.int IntKind.i64 0), .lit (Value.int IntKind.i64 0), .lit (Value.bool false), .lit (Value.int IntKind.u8 0)] := by kernel_rfl
@[simp] theorem z8 : zeroOf Tryz.prog 8 = some [Value.int IntKind.i64 0, Value.int IntKind.i64 0, Value.bool false, Value.int IntKind.u8 0] := by kernel_rfl
@[simp] theorem fld8_0 : fldOf Tryz.prog 8 0 = some (0, false, 1) := by kernel_rfl
@[simp] theorem fld8_1 : fldOf Tryz.prog 8 1 = some (1, false, 1) := by kernel_rfl
@[simp] theorem fld8_2 : fldOf Tryz.prog 8 2 = some (2, false, 1) := by kernel_rfl
@[simp] theorem fld8_3 : fldOf Tryz.prog 8 3 = some (3, false, 1) := by kernel_rfl
@[simp] theorem pl8 : placesOf Tryz.prog 8 = some [(0, 1), (1, 1), (2, 1), (3, 1)] := by kernel_rfl
@[simp] theorem ty9 : tyOf Tryz.prog 9 = some (false, 1) := by kernel_rfl
@[simp] theorem zav9 : zAV Tryz.prog 9 [Value.string { data := #[] }] = [.lit (Value.string { data := #[] })] := by kernel_rfl
@[simp] theorem z9 : zeroOf Tryz.prog 9 = some [Value.string { data := #[] }] := by kernel_rfl
@[simp] theorem pl9 : placesOf Tryz.prog 9 = none := by kernel_rfl
@[simp] theorem st9 : strT Tryz.prog 9 = true := by kernel_rfl
@[simp] theorem ty20 : tyOf Tryz.prog 20 = some (false, 1) := by kernel_rfl
@[simp] theorem pl20 : placesOf Tryz.prog 20 = none := by kernel_rfl
@[simp] theorem ty21 : tyOf Tryz.prog 21 = some (false, 1) := by kernel_rfl
@[simp] theorem zav21 : zAV Tryz.prog 21 [Value.int IntKind.i32 0] = [.lit (Value.int IntKind.i32 0)] := by kernel_rfl
@[simp] theorem z21 : zeroOf Tryz.prog 21 = some [Value.int IntKind.i32 0] := by kernel_rfl
@[simp] theorem pl21 : placesOf Tryz.prog 21 = none := by kernel_rfl
@[simp] theorem in21 : intT Tryz.prog 21 = some .i32 := by kernel_rfl
@[simp] theorem un21 : Tryz.prog.underlying 21 = some (.int .i32) := by kernel_rfl
@[simp] theorem ty22 : tyOf Tryz.prog 22 = some (false, 1) := by kernel_rfl
@[simp] theorem zav22 : zAV Tryz.prog 22 [Value.slice none 0 0] = [.nl 4] := by kernel_rfl
@[simp] theorem z22 : zeroOf Tryz.prog 22 = some [Value.slice none 0 0] := by kernel_rfl
@[simp] theorem pl22 : placesOf Tryz.prog 22 = none := by kernel_rfl
@[simp] theorem el22 : elOf Tryz.prog 22 = some (82, true, 4, 64, [Value.int IntKind.i64 0, Value.bool false, Value.slice none 0 0, Value.slice none 0 0]) := by kernel_rfl
@[simp] theorem ty23 : tyOf Tryz.prog 23 = some (false, 1) := by kernel_rfl
@[simp] theorem zav23 : zAV Tryz.prog 23 [Value.slice none 0 0] = [.nl 1] := by kernel_rfl
@[simp] theorem z23 : zeroOf Tryz.prog 23 = some [Value.slice none 0 0] := by kernel_rfl
@[simp] theorem pl23 : placesOf Tryz.prog 23 = none := by kernel_rfl
@[simp] theorem el23 : elOf Tryz.prog 23 = some (165, false, 1, 4, [Value.int IntKind.u32 0]) := by kernel_rfl
@[simp] theorem ty24 : tyOf Tryz.prog 24 = some (false, 1) := by kernel_rfl
@[simp] theorem zav24 : zAV Tryz.prog 24 [Value.slice none 0 0] = [.nl 1] := by kernel_rfl
@[simp] theorem z24 : zeroOf Tryz.prog 24 = some [Value.slice none 0 0] := by kernel_rfl
@[simp] theorem pl24 : placesOf Tryz.prog 24 = none := by kernel_rfl
@[simp] theorem el24 : elOf Tryz.prog 24 = some (165, false, 1, 4, [Value.int IntKind.u32 0]) := by kernel_rfl
@[simp] theorem ty26 : tyOf Tryz.prog 26 = some (true, 3) := by kernel_rfl
@[simp] theorem zav26 : zAV Tryz.prog 26 [Value.bool false, Value.slice none 0 0, Value.slice none 0 0] = [.lit (Value.bool false), .nl 1, .nl 1] := by kernel_rfl
@[simp] theorem z26 : zeroOf Tryz.prog 26 = some [Value.bool false, Value.slice none 0 0, Value.slice none 0 0] := by kernel_rfl
@[simp] theorem fld26_0 : fldOf Tryz.prog 26 0 = some (0, false, 1) := by kernel_rfl
@[simp] theorem fld26_1 : fldOf Tryz.prog 26 1 = some (1, false, 1) := by kernel_rfl
@[simp] theorem fld26_2 : fldOf Tryz.prog 26 2 = some (2, false, 1) := by kernel_rfl
@[simp] theorem pl26 : placesOf Tryz.prog 26 = some [(0, 1), (1, 1), (2, 1)] := by kernel_rfl
@[simp] theorem ty28 : tyOf Tryz.prog 28 = some (true, 4) := by kernel_rfl
@[simp] theorem zav28 : zAV Tryz.prog 28 [Value.slice none 0 0, Value.bool false, Value.slice none 0 0, Value.slice none 0 0] = [.nl 4, .lit (Value.bool false), .nl 1, .nl 1] := by kernel_rfl
@[simp] theorem z28 : zeroOf Tryz.prog 28 = some [Value.slice none 0 0, Value.bool false, Value.slice none 0 0, Value.slice none 0 0] := by kernel_rfl
@[simp] theorem fld28_0 : fldOf Tryz.prog 28 0 = some (0, false, 1) := by kernel_rfl
@[simp] theorem fld28_1 : fldOf Tryz.prog 28 1 = some (1, true, 3) := by kernel_rfl
@[simp] theorem pl28 : placesOf Tryz.prog 28 = some [(0, 1), (1, 3)] := by kernel_rfl
@[simp] theorem ty30 : tyOf Tryz.prog 30 = some (false, 1) := by kernel_rfl
@[simp] theorem zav30 : zAV Tryz.prog 30 [Value.nilFunc] = [.lit (Value.nilFunc)] := by kernel_rfl
@[simp] theorem z30 : zeroOf Tryz.prog 30 = some [Value.nilFunc] := by kernel_rfl
@[simp] theorem pl30 : placesOf Tryz.prog 30 = none := by kernel_rfl
@[simp] theorem ty33 : tyOf Tryz.prog 33 = some (false, 1) := by kernel_rfl
@[simp] theorem zav33 : zAV Tryz.prog 33 [Value.int IntKind.i64 0] = [.lit (Value.int IntKind.i64 0)] := by kernel_rfl
@[simp] theorem z33 : zeroOf Tryz.prog 33 = some [Value.int IntKind.i64 0] := by kernel_rfl
@[simp] theorem pl33 : placesOf Tryz.prog 33 = none := by kernel_rfl
@[simp] theorem in33 : intT Tryz.prog 33 = some .i64 := by kernel_rfl
@[simp] theorem un33 : Tryz.prog.underlying 33 = some (.int .i64) := by kernel_rfl
@[simp] theorem ty34 : tyOf Tryz.prog 34 = some (false, 1) := by kernel_rfl
@[simp] theorem zav34 : zAV Tryz.prog 34 [Value.tuple #[Value.agg #[Value.slice none 0 0, Value.bool false, Value.slice none 0 0, Value.slice none 0 0], Value.int IntKind.i64 0, Value.int IntKind.i64 0]] = [.lit (Value.tuple #[Value.agg #[Value.slice none 0 0, Value.bool false, Value.slice none 0 0, Value.slice none 0 0], Value.int IntKind.i64 0, Value.int IntKind.i64 0])] := by kernel_rfl
@[simp] theorem z34 : zeroOf Tryz.prog 34 = some [Value.tuple #[Value.agg #[Value.slice none 0 0, Value.bool false, Value.slice none 0 0, Value.slice none 0 0], Value.int IntKind.i64 0, Value.int IntKind.i64 0]] := by kernel_rfl
@[simp] theorem pl34 : placesOf Tryz.prog 34 = none := by kernel_rfl
@[simp] theorem ty50 : tyOf Tryz.prog 50 = some (false, 1) := by kernel_rfl
@[simp] theorem zav50 : zAV Tryz.prog 50 [Value.slice none 0 0] = [.nl 4] := by kernel_rfl
@[simp] theorem z50 : zeroOf Tryz.prog 50 = some [Value.slice none 0 0] := by kernel_rfl
@[simp] theorem pl50 : placesOf Tryz.prog 50 = none := by kernel_rfl
@[simp] theorem el50 : elOf Tryz.prog 50 = some (28, true, 4, 80, [Value.slice none 0 0, Value.bool false, Value.slice none 0 0, Value.slice none 0 0]) := by kernel_rfl
@[simp] theorem ty52 : tyOf Tryz.prog 52 = some (true, 6) := by kernel_rfl
@[simp] theorem zav52 : zAV Tryz.prog 52 [Value.int IntKind.i64 0, Value.int IntKind.i64 0, Value.bool false, Value.slice none 0 0, Value.slice none 0 0, Value.slice none 0 0] = [.lit (Value.int IntKind.i64 0), .lit (Value.int IntKind.i64 0), .lit (Value.bool false), .nl 1, .nl 1, .nl 4] := by kernel_rfl
@[simp] theorem z52 : zeroOf Tryz.prog 52 = some [Value.int IntKind.i64 0, Value.int IntKind.i64 0, Value.bool false, Value.slice none 0 0, Value.slice none 0 0, Value.slice none 0 0] := by kernel_rfl
@[simp] theorem fld52_0 : fldOf Tryz.prog 52 0 = some (0, false, 1) := by kernel_rfl
@[simp] theorem fld52_1 : fldOf Tryz.prog 52 1 = some (1, false, 1) := by kernel_rfl
@[simp] theorem fld52_2 : fldOf Tryz.prog 52 2 = some (2, true, 3) := by kernel_rfl
@[simp] theorem fld52_3 : fldOf Tryz.prog 52 3 = some (5, false, 1) := by kernel_rfl
@[simp] theorem pl52 : placesOf Tryz.prog 52 = some [(0, 1), (1, 1), (2, 3), (5, 1)] := by kernel_rfl
@[simp] theorem ty54 : tyOf Tryz.prog 54 = some (false, 1) := by kernel_rfl
@[simp] theorem zav54 : zAV Tryz.prog 54 [Value.tuple #[Value.slice none 0 0, Value.int IntKind.i64 0]] = [.lit (Value.tuple #[Value.slice none 0 0, Value.int IntKind.i64 0])] := by kernel_rfl
@[simp] theorem z54 : zeroOf Tryz.prog 54 = some [Value.tuple #[Value.slice none 0 0, Value.int IntKind.i64 0]] := by kernel_rfl
@[simp] theorem pl54 : placesOf Tryz.prog 54 = none := by kernel_rfl
@[simp] theorem ty59 : tyOf Tryz.prog 59 = some (false, 1) := by kernel_rfl
@[simp] theorem zav59 : zAV Tryz.prog 59 [Value.slice none 0 0] = [.nl 3] := by kernel_rfl
@[simp] theorem z59 : zeroOf Tryz.prog 59 = some [Value.slice none 0 0] := by kernel_rfl
@[simp] theorem pl59 : placesOf Tryz.prog 59 = none := by kernel_rfl
@[simp] theorem el59 : elOf Tryz.prog 59 = some (26, true, 3, 56, [Value.bool false, Value.slice none 0 0, Value.slice none 0 0]) := by kernel_rfl
@[simp] theorem ty61 : tyOf Tryz.prog 61 = some (false, 1) := by kernel_rfl
@[simp] theorem zav61 : zAV Tryz.prog 61 [Value.tuple #[Value.int IntKind.i64 0, Value.bool false, Value.int IntKind.i64 0]] = [.lit (Value.tuple #[Value.int IntKind.i64 0, Value.bool false, Value.int IntKind.i64 0])] := by kernel_rfl
@[simp] theorem z61 : zeroOf Tryz.prog 61 = some [Value.tuple #[Value.int IntKind.i64 0, Value.bool false, Value.int IntKind.i64 0]] := by kernel_rfl
@[simp] theorem pl61 : placesOf Tryz.prog 61 = none := by kernel_rfl
@[simp] theorem ty63 : tyOf Tryz.prog 63 = some (false, 1) := by kernel_rfl
@[simp] theorem zav63 : zAV Tryz.prog 63 [Value.nilFunc] = [.lit (Value.nilFunc)] := by kernel_rfl
@[simp] theorem z63 : zeroOf Tryz.prog 63 = some [Value.nilFunc] := by kernel_rfl
@[simp] theorem pl63 : placesOf Tryz.prog 63 = none := by kernel_rfl
@[simp] theorem ty64 : tyOf Tryz.prog 64 = some (false, 1) := by kernel_rfl
@[simp] theorem zav64 : zAV Tryz.prog 64 [Value.tuple #[Value.agg #[Value.bool false, Value.slice none 0 0, Value.slice none 0 0], Value.int IntKind.i64 0]] = [.lit (Value.tuple #[Value.agg #[Value.bool false, Value.slice none 0 0, Value.slice none 0 0], Value.int IntKind.i64 0])] := by kernel_rfl
@[simp] theorem z64 : zeroOf Tryz.prog 64 = some [Value.tuple #[Value.agg #[Value.bool false, Value.slice none 0 0, Value.slice none 0 0], Value.int IntKind.i64 0]] := by kernel_rfl
@[simp] theorem pl64 : placesOf Tryz.prog 64 = none := by kernel_rfl
@[simp] theorem ty73 : tyOf Tryz.prog 73 = some (false, 1) := by kernel_rfl
@[simp] theorem zav73 : zAV Tryz.prog 73 [Value.tuple #[Value.agg #[Value.int IntKind.i64 0, Value.int IntKind.i64 0, Value.bool false, Value.slice none 0 0, Value.slice none 0 0, Value.slice none 0 0], Value.int IntKind.i64 0, Value.int IntKind.i64 0]] = [.lit (Value.tuple #[Value.agg #[Value.int IntKind.i64 0, Value.int IntKind.i64 0, Value.bool false, Value.slice none 0 0, Value.slice none 0 0, Value.slice none 0 0], Value.int IntKind.i64 0, Value.int IntKind.i64 0])] := by kernel_rfl
@[simp] theorem z73 : zeroOf Tryz.prog 73 = some [Value.tuple #[Value.agg #[Value.int IntKind.i64 0, Value.int IntKind.i64 0, Value.bool false, Value.slice none 0 0, Value.slice none 0 0, Value.slice none 0 0], Value.int IntKind.i64 0, Value.int IntKind.i64 0]] := by kernel_rfl
@[simp] theorem pl73 : placesOf Tryz.prog 73 = none := by kernel_rfl
@[simp] theorem ty82 : tyOf Tryz.prog 82 = some (true, 4) := by kernel_rfl
@[simp] theorem zav82 : zAV Tryz.prog 82 [Value.int IntKind.i64 0, Value.bool false, Value.slice none 0 0, Value.slice none 0 0] = [.lit (Value.int IntKind.i64 0), .lit (Value.bool false), .nl 1, .nl 1] := by kernel_rfl
@[simp] theorem z82 : zeroOf Tryz.prog 82 = some [Value.int IntKind.i64 0, Value.bool false, Value.slice none 0 0, Value.slice none 0 0] := by kernel_rfl
@[simp] theorem fld82_0 : fldOf Tryz.prog 82 0 = some (0, false, 1) := by kernel_rfl
@[simp] theorem fld82_1 : fldOf Tryz.prog 82 1 = some (1, true, 3) := by kernel_rfl
@[simp] theorem pl82 : placesOf Tryz.prog 82 = some [(0, 1), (1, 3)] := by kernel_rfl
@[simp] theorem ty83 : tyOf Tryz.prog 83 = some (false, 1) := by kernel_rfl
@[simp] theorem zav83 : zAV Tryz.prog 83 [Value.pointer none] = [.lit (Value.pointer none)] := by kernel_rfl
@[simp] theorem z83 : zeroOf Tryz.prog 83 = some [Value.pointer none] := by kernel_rfl
@[simp] theorem pl83 : placesOf Tryz.prog 83 = none := by kernel_rfl
@[simp] theorem pt83 : ptT Tryz.prog 83 = some 86 := by kernel_rfl
@[simp] theorem ty84 : tyOf Tryz.prog 84 = some (false, 1) := by kernel_rfl
@[simp] theorem zav84 : zAV Tryz.prog 84 [Value.slice none 0 0] = [.nl 1] := by kernel_rfl
@[simp] theorem z84 : zeroOf Tryz.prog 84 = some [Value.slice none 0 0] := by kernel_rfl
@[simp] theorem pl84 : placesOf Tryz.prog 84 = none := by kernel_rfl
@[simp] theorem el84 : elOf Tryz.prog 84 = some (5, false, 1, 1, [Value.int IntKind.u8 0]) := by kernel_rfl
@[simp] theorem by84 : bytT Tryz.prog 84 = some 5 := by kernel_rfl
@[simp] theorem ty86 : tyOf Tryz.prog 86 = some (true, 2) := by kernel_rfl
@[simp] theorem zav86 : zAV Tryz.prog 86 [Value.pointer none, Value.slice none 0 0] = [.lit (Value.pointer none), .nl 1] := by kernel_rfl
@[simp] theorem z86 : zeroOf Tryz.prog 86 = some [Value.pointer none, Value.slice none 0 0] := by kernel_rfl
@[simp] theorem fld86_0 : fldOf Tryz.prog 86 0 = some (0, false, 1) := by kernel_rfl
@[simp] theorem fld86_1 : fldOf Tryz.prog 86 1 = some (1, false, 1) := by kernel_rfl
@[simp] theorem pl86 : placesOf Tryz.prog 86 = some [(0, 1), (1, 1)] := by kernel_rfl
@[simp] theorem ty89 : tyOf Tryz.prog 89 = some (false, 1) := by kernel_rfl
@[simp] theorem pl89 : placesOf Tryz.prog 89 = none := by kernel_rfl
@[simp] theorem ty90 : tyOf Tryz.prog 90 = some (false, 1) := by kernel_rfl
@[simp] theorem zav90 : zAV Tryz.prog 90 [Value.tuple #[Value.int IntKind.i64 0, Value.nilIface]] = [.lit (Value.tuple #[Value.int IntKind.i64 0, Value.nilIface])] := by kernel_rfl
@[simp] theorem z90 : zeroOf Tryz.prog 90 = some [Value.tuple #[Value.int IntKind.i64 0, Value.nilIface]] := by kernel_rfl
@[simp] theorem pl90 : placesOf Tryz.prog 90 = none := by kernel_rfl
@[simp] theorem ty92 : tyOf Tryz.prog 92 = some (false, 1) := by kernel_rfl
@[simp] theorem zav92 : zAV Tryz.prog 92 [Value.nilFunc] = [.lit (Value.nilFunc)] := by kernel_rfl
@[simp] theorem z92 : zeroOf Tryz.prog 92 = some [Value.nilFunc] := by kernel_rfl
@[simp] theorem pl92 : placesOf Tryz.prog 92 = none := by kernel_rfl
@[simp] theorem ty96 : tyOf Tryz.prog 96 = some (false, 1) := by kernel_rfl
@[simp] theorem zav96 : zAV Tryz.prog 96 [Value.pointer none] = [.lit (Value.pointer none)] := by kernel_rfl
@[simp] theorem z96 : zeroOf Tryz.prog 96 = some [Value.pointer none] := by kernel_rfl
@[simp] theorem pl96 : placesOf Tryz.prog 96 = none := by kernel_rfl
@[simp] theorem pt96 : ptT Tryz.prog 96 = some 98 := by kernel_rfl
@[simp] theorem ty98 : tyOf Tryz.prog 98 = some (true, 2) := by kernel_rfl
@[simp] theorem zav98 : zAV Tryz.prog 98 [Value.string { data := #[] }, Value.int IntKind.i64 0] = [.lit (Value.string { data := #[] }), .lit (Value.int IntKind.i64 0)] := by kernel_rfl
@[simp] theorem z98 : zeroOf Tryz.prog 98 = some [Value.string { data := #[] }, Value.int IntKind.i64 0] := by kernel_rfl
@[simp] theorem fld98_0 : fldOf Tryz.prog 98 0 = some (0, false, 1) := by kernel_rfl
@[simp] theorem fld98_1 : fldOf Tryz.prog 98 1 = some (1, false, 1) := by kernel_rfl
@[simp] theorem pl98 : placesOf Tryz.prog 98 = some [(0, 1), (1, 1)] := by kernel_rfl
@[simp] theorem ty99 : tyOf Tryz.prog 99 = some (false, 1) := by kernel_rfl
@[simp] theorem zav99 : zAV Tryz.prog 99 [Value.tuple #[Value.agg #[Value.slice none 0 0, Value.bool false, Value.slice none 0 0, Value.slice none 0 0], Value.bool false]] = [.lit (Value.tuple #[Value.agg #[Value.slice none 0 0, Value.bool false, Value.slice none 0 0, Value.slice none 0 0], Value.bool false])] := by kernel_rfl
@[simp] theorem z99 : zeroOf Tryz.prog 99 = some [Value.tuple #[Value.agg #[Value.slice none 0 0, Value.bool false, Value.slice none 0 0, Value.slice none 0 0], Value.bool false]] := by kernel_rfl
@[simp] theorem pl99 : placesOf Tryz.prog 99 = none := by kernel_rfl
@[simp] theorem ty104 : tyOf Tryz.prog 104 = some (false, 1) := by kernel_rfl
@[simp] theorem zav104 : zAV Tryz.prog 104 [Value.int IntKind.u64 0] = [.lit (Value.int IntKind.u64 0)] := by kernel_rfl
@[simp] theorem z104 : zeroOf Tryz.prog 104 = some [Value.int IntKind.u64 0] := by kernel_rfl
@[simp] theorem pl104 : placesOf Tryz.prog 104 = none := by kernel_rfl
@[simp] theorem in104 : intT Tryz.prog 104 = some .u64 := by kernel_rfl
@[simp] theorem un104 : Tryz.prog.underlying 104 = some (.int .u64) := by kernel_rfl
@[simp] theorem ty107 : tyOf Tryz.prog 107 = some (true, 3) := by kernel_rfl
@[simp] theorem zav107 : zAV Tryz.prog 107 [Value.string { data := #[] }, Value.int IntKind.i64 0, Value.bool false] = [.lit (Value.string { data := #[] }), .lit (Value.int IntKind.i64 0), .lit (Value.bool false)] := by kernel_rfl
@[simp] theorem z107 : zeroOf Tryz.prog 107 = some [Value.string { data := #[] }, Value.int IntKind.i64 0, Value.bool false] := by kernel_rfl
@[simp] theorem fld107_0 : fldOf Tryz.prog 107 0 = some (0, false, 1) := by kernel_rfl
@[simp] theorem fld107_1 : fldOf Tryz.prog 107 1 = some (1, false, 1) := by kernel_rfl
@[simp] theorem fld107_2 : fldOf Tryz.prog 107 2 = some (2, false, 1) := by kernel_rfl
@[simp] theorem pl107 : placesOf Tryz.prog 107 = some [(0, 1), (1, 1), (2, 1)] := by kernel_rfl
@[simp] theorem ty119 : tyOf Tryz.prog 119 = some (false, 1) := by kernel_rfl
@[simp] theorem zav119 : zAV Tryz.prog 119 [Value.slice none 0 0] = [.nl 1] := by kernel_rfl
@[simp] theorem z119 : zeroOf Tryz.prog 119 = some [Value.slice none 0 0] := by kernel_rfl
@[simp] theorem pl119 : placesOf Tryz.prog 119 = none := by kernel_rfl
@[simp] theorem el119 : elOf Tryz.prog 119 = some (9, false, 1, 16, [Value.string { data := #[] }]) := by kernel_rfl
@[simp] theorem ty134 : tyOf Tryz.prog 134 = some (true, 2) := by kernel_rfl
@[simp] theorem zav134 : zAV Tryz.prog 134 [Value.bool false, Value.slice none 0 0] = [.lit (Value.bool false), .nl 1] := by kernel_rfl
@[simp] theorem z134 : zeroOf Tryz.prog 134 = some [Value.bool false, Value.slice none 0 0] := by kernel_rfl
@[simp] theorem fld134_0 : fldOf Tryz.prog 134 0 = some (0, false, 1) := by kernel_rfl
@[simp] theorem fld134_1 : fldOf Tryz.prog 134 1 = some (1, false, 1) := by kernel_rfl
@[simp] theorem pl134 : placesOf Tryz.prog 134 = some [(0, 1), (1, 1)] := by kernel_rfl
@[simp] theorem ty147 : tyOf Tryz.prog 147 = some (false, 1) := by kernel_rfl
@[simp] theorem zav147 : zAV Tryz.prog 147 [Value.tuple #[Value.int IntKind.i64 0, Value.bool false]] = [.lit (Value.tuple #[Value.int IntKind.i64 0, Value.bool false])] := by kernel_rfl
@[simp] theorem z147 : zeroOf Tryz.prog 147 = some [Value.tuple #[Value.int IntKind.i64 0, Value.bool false]] := by kernel_rfl
@[simp] theorem pl147 : placesOf Tryz.prog 147 = none := by kernel_rfl
@[simp] theorem ty149 : tyOf Tryz.prog 149 = some (false, 1) := by kernel_rfl
@[simp] theorem zav149 : zAV Tryz.prog 149 [Value.tuple #[Value.slice none 0 0, Value.int IntKind.i64 0, Value.bool false]] = [.lit (Value.tuple #[Value.slice none 0 0, Value.int IntKind.i64 0, Value.bool false])] := by kernel_rfl
@[simp] theorem z149 : zeroOf Tryz.prog 149 = some [Value.tuple #[Value.slice none 0 0, Value.int IntKind.i64 0, Value.bool false]] := by kernel_rfl
@[simp] theorem pl149 : placesOf Tryz.prog 149 = none := by kernel_rfl
@[simp] theorem ty156 : tyOf Tryz.prog 156 = some (false, 1) := by kernel_rfl
@[simp] theorem zav156 : zAV Tryz.prog 156 [Value.pointer none] = [.lit (Value.pointer none)] := by kernel_rfl
@[simp] theorem z156 : zeroOf Tryz.prog 156 = some [Value.pointer none] := by kernel_rfl
@[simp] theorem pl156 : placesOf Tryz.prog 156 = none := by kernel_rfl
@[simp] theorem pt156 : ptT Tryz.prog 156 = some 5 := by kernel_rfl
@[simp] theorem ty158 : tyOf Tryz.prog 158 = some (false, 1) := by kernel_rfl
@[simp] theorem zav158 : zAV Tryz.prog 158 [Value.tuple #[Value.string { data := #[] }, Value.bool false]] = [.lit (Value.tuple #[Value.string { data := #[] }, Value.bool false])] := by kernel_rfl
@[simp] theorem z158 : zeroOf Tryz.prog 158 = some [Value.tuple #[Value.string { data := #[] }, Value.bool false]] := by kernel_rfl
@[simp] theorem pl158 : placesOf Tryz.prog 158 = none := by kernel_rfl
@[simp] theorem ty163 : tyOf Tryz.prog 163 = some (false, 1) := by kernel_rfl
@[simp] theorem zav163 : zAV Tryz.prog 163 [Value.tuple #[Value.slice none 0 0, Value.slice none 0 0, Value.int IntKind.i64 0]] = [.lit (Value.tuple #[Value.slice none 0 0, Value.slice none 0 0, Value.int IntKind.i64 0])] := by kernel_rfl
@[simp] theorem z163 : zeroOf Tryz.prog 163 = some [Value.tuple #[Value.slice none 0 0, Value.slice none 0 0, Value.int IntKind.i64 0]] := by kernel_rfl
@[simp] theorem pl163 : placesOf Tryz.prog 163 = none := by kernel_rfl
@[simp] theorem ty165 : tyOf Tryz.prog 165 = some (false, 1) := by kernel_rfl
@[simp] theorem zav165 : zAV Tryz.prog 165 [Value.int IntKind.u32 0] = [.lit (Value.int IntKind.u32 0)] := by kernel_rfl
@[simp] theorem z165 : zeroOf Tryz.prog 165 = some [Value.int IntKind.u32 0] := by kernel_rfl
@[simp] theorem pl165 : placesOf Tryz.prog 165 = none := by kernel_rfl
@[simp] theorem in165 : intT Tryz.prog 165 = some .u32 := by kernel_rfl
@[simp] theorem un165 : Tryz.prog.underlying 165 = some (.int .u32) := by kernel_rfl
@[simp] theorem ty166 : tyOf Tryz.prog 166 = some (false, 1) := by kernel_rfl
@[simp] theorem zav166 : zAV Tryz.prog 166 [Value.tuple #[Value.int IntKind.u64 0, Value.bool false]] = [.lit (Value.tuple #[Value.int IntKind.u64 0, Value.bool false])] := by kernel_rfl
@[simp] theorem z166 : zeroOf Tryz.prog 166 = some [Value.tuple #[Value.int IntKind.u64 0, Value.bool false]] := by kernel_rfl
@[simp] theorem pl166 : placesOf Tryz.prog 166 = none := by kernel_rfl
@[simp] theorem ty168 : tyOf Tryz.prog 168 = some (false, 1) := by kernel_rfl
@[simp] theorem zav168 : zAV Tryz.prog 168 [Value.int IntKind.u64 0] = [.lit (Value.int IntKind.u64 0)] := by kernel_rfl
@[simp] theorem z168 : zeroOf Tryz.prog 168 = some [Value.int IntKind.u64 0] := by kernel_rfl
@[simp] theorem pl168 : placesOf Tryz.prog 168 = none := by kernel_rfl
@[simp] theorem in168 : intT Tryz.prog 168 = some .u64 := by kernel_rfl
@[simp] theorem un168 : Tryz.prog.underlying 168 = some (.int .u64) := by kernel_rfl
@[simp] theorem ty200 : tyOf Tryz.prog 200 = some (false, 1) := by kernel_rfl
@[simp] theorem zav200 : zAV Tryz.prog 200 [Value.tuple #[Value.slice none 0 0, Value.int IntKind.i64 0]] = [.lit (Value.tuple #[Value.slice none 0 0, Value.int IntKind.i64 0])] := by kernel_rfl
@[simp] theorem z200 : zeroOf Tryz.prog 200 = some [Value.tuple #[Value.slice none 0 0, Value.int IntKind.i64 0]] := by kernel_rfl
@[simp] theorem pl200 : placesOf Tryz.prog 200 = none := by kernel_rfl
@[simp] theorem ty206 : tyOf Tryz.prog 206 = some (true, 256) := by kernel_rfl
@[simp] theorem pl206 : placesOf Tryz.prog 206 = none := by kernel_rfl
@[simp] theorem ar206 : arOf Tryz.prog 206 = some (256, false, 1) := by kernel_rfl
@[simp] theorem nel206 : elOf Tryz.prog 206 = none := by kernel_rfl
@[simp] theorem ty207 : tyOf Tryz.prog 207 = some (false, 1) := by kernel_rfl
@[simp] theorem pl207 : placesOf Tryz.prog 207 = none := by kernel_rfl
@[simp] theorem ty210 : tyOf Tryz.prog 210 = some (false, 1) := by kernel_rfl
@[simp] theorem zav210 : zAV Tryz.prog 210 [Value.pointer none] = [.lit (Value.pointer none)] := by kernel_rfl
@[simp] theorem z210 : zeroOf Tryz.prog 210 = some [Value.pointer none] := by kernel_rfl
@[simp] theorem pl210 : placesOf Tryz.prog 210 = none := by kernel_rfl
@[simp] theorem pt210 : ptT Tryz.prog 210 = some 206 := by kernel_rfl
@[simp] theorem ty212 : tyOf Tryz.prog 212 = some (false, 1) := by kernel_rfl
@[simp] theorem zav212 : zAV Tryz.prog 212 [Value.pointer none] = [.lit (Value.pointer none)] := by kernel_rfl
@[simp] theorem z212 : zeroOf Tryz.prog 212 = some [Value.pointer none] := by kernel_rfl
@[simp] theorem pl212 : placesOf Tryz.prog 212 = none := by kernel_rfl
@[simp] theorem ty224 : tyOf Tryz.prog 224 = some (false, 1) := by kernel_rfl
@[simp] theorem zav224 : zAV Tryz.prog 224 [Value.int IntKind.i64 0] = [.lit (Value.int IntKind.i64 0)] := by kernel_rfl
@[simp] theorem z224 : zeroOf Tryz.prog 224 = some [Value.int IntKind.i64 0] := by kernel_rfl
@[simp] theorem pl224 : placesOf Tryz.prog 224 = none := by kernel_rfl
@[simp] theorem in224 : intT Tryz.prog 224 = some .i64 := by kernel_rfl
@[simp] theorem un224 : Tryz.prog.underlying 224 = some (.int .i64) := by kernel_rfl
@[simp] theorem ty225 : tyOf Tryz.prog 225 = some (false, 1) := by kernel_rfl
@[simp] theorem zav225 : zAV Tryz.prog 225 [Value.tuple #[Value.int IntKind.i64 0, Value.nilIface]] = [.lit (Value.tuple #[Value.int IntKind.i64 0, Value.nilIface])] := by kernel_rfl
@[simp] theorem z225 : zeroOf Tryz.prog 225 = some [Value.tuple #[Value.int IntKind.i64 0, Value.nilIface]] := by kernel_rfl
@[simp] theorem pl225 : placesOf Tryz.prog 225 = none := by kernel_rfl
@[simp] theorem ty227 : tyOf Tryz.prog 227 = some (false, 1) := by kernel_rfl
@[simp] theorem zav227 : zAV Tryz.prog 227 [Value.pointer none] = [.lit (Value.pointer none)] := by kernel_rfl
@[simp] theorem z227 : zeroOf Tryz.prog 227 = some [Value.pointer none] := by kernel_rfl
@[simp] theorem pl227 : placesOf Tryz.prog 227 = none := by kernel_rfl
@[simp] theorem pt227 : ptT Tryz.prog 227 = some 258 := by kernel_rfl
@[simp] theorem ty237 : tyOf Tryz.prog 237 = some (false, 1) := by kernel_rfl
@[simp] theorem zav237 : zAV Tryz.prog 237 [Value.tuple #[Value.int IntKind.i32 0, Value.int IntKind.i64 0]] = [.lit (Value.tuple #[Value.int IntKind.i32 0, Value.int IntKind.i64 0])] := by kernel_rfl
@[simp] theorem z237 : zeroOf Tryz.prog 237 = some [Value.tuple #[Value.int IntKind.i32 0, Value.int IntKind.i64 0]] := by kernel_rfl
@[simp] theorem pl237 : placesOf Tryz.prog 237 = none := by kernel_rfl
@[simp] theorem ty239 : tyOf Tryz.prog 239 = some (false, 1) := by kernel_rfl
@[simp] theorem zav239 : zAV Tryz.prog 239 [Value.tuple #[Value.int IntKind.u32 0, Value.int IntKind.u32 0]] = [.lit (Value.tuple #[Value.int IntKind.u32 0, Value.int IntKind.u32 0])] := by kernel_rfl
@[simp] theorem z239 : zeroOf Tryz.prog 239 = some [Value.tuple #[Value.int IntKind.u32 0, Value.int IntKind.u32 0]] := by kernel_rfl
@[simp] theorem pl239 : placesOf Tryz.prog 239 = none := by kernel_rfl
@[simp] theorem ty242 : tyOf Tryz.prog 242 = some (true, 24) := by kernel_rfl
@[simp] theorem zav242 : zAV Tryz.prog 242 [Value.int IntKind.u8 0, Value.int IntKind.u8 0, Value.int IntKind.u8 0, Value.int IntKind.u8 0, Value.int IntKind.u8 0, Value.int IntKind.u8 0, Value.int IntKind.u8 0, Value.int IntKind.u8 0, Value.int IntKind.u8 0, Value.int IntKind.u8 0, Value.int IntKind.u8 0, Value.int IntKind.u8 0, Value.int IntKind.u8 0, Value.int IntKind.u8 0, Value.int IntKind.u8 0, Value.int IntKind.u8 0, Value.int IntKind.u8 0, Value.int IntKind.u8 0, Value.int IntKind.u8 0, Value.int IntKind.u8 0, Value.int IntKind.u8 0, Value.int IntKind.u8 0, Value.int IntKind.u8 0, Value.int IntKind.u8 0] = [.lit (Value.int IntKind.u8 0), .lit (Value.int IntKind.u8 0), .lit (Value.int IntKind.u8 0), .lit (Value.int IntKind.u8 0), .lit (Value.int IntKind.u8 0), .lit (Value.int IntKind.u8 0), .lit (Value.int IntKind.u8 0), .lit (Value.int IntKind.u8 0), .lit (Value.int IntKind.u8 0), .lit (Value.int IntKind.u8 0), .lit (Value.int IntKind.u8 0), .lit (Value.int IntKind.u8 0), .lit (Value.int IntKind.u8 0), .lit (Value.int IntKind.u8 0), .lit (Value.int IntKind.u8 0), .lit (Value.int IntKind.u8 0), .lit (Value.int IntKind.u8 0), .lit (Value.int IntKind.u8 0), .lit (Value.int IntKind.u8 0), .lit (Value.int IntKind.u8 0), .lit (Value.int IntKind.u8 0), .lit (Value.int IntKind.u8 0), .lit (Value.int IntKind.u8 0), .lit (Value.int IntKind.u8 0)] := by kernel_rfl
@[simp] theorem z242 : zeroOf Tryz.prog 242 = some [Value.int IntKind.u8 0, Value.int IntKind.u8 0, Value.int IntKind.u8 0, Value.int IntKind.u8 0, Value.int IntKind.u8 0, Value.int IntKind.u8 0, Value.int IntKind.u8 0, Value.int IntKind.u8 0, Value.int IntKind.u8 0, Value.int IntKind.u8 0, Value.int IntKind.u8 0, Value.int IntKind.u8 0, Value.int IntKind.u8 0, Value.int IntKind.u8 0, Value.int IntKind.u8 0, Value.int IntKind.u8 0, Value.int IntKind.u8 0, Value.int IntKind.u8 0, Value.int IntKind.u8 0, Value.int IntKind.u8 0, Value.int IntKind.u8 0, Value.int IntKind.u8 0, Value.int IntKind.u8 0, Value.int IntKind.u8 0] := by kernel_rfl
@[simp] theorem pl242 : placesOf Tryz.prog 242 = none := by kernel_rfl
@[simp] theorem ar242 : arOf Tryz.prog 242 = some (24, false, 1) := by kernel_rfl
@[simp] theorem nel242 : elOf Tryz.prog 242 = none := by kernel_rfl
@[simp] theorem ty245 : tyOf Tryz.prog 245 = some (false, 1) := by kernel_rfl
@[simp] theorem zav245 : zAV Tryz.prog 245 [Value.tuple #[Value.slice none 0 0, Value.string { data := #[] }]] = [.lit (Value.tuple #[Value.slice none 0 0, Value.string { data := #[] }])] := by kernel_rfl
@[simp] theorem z245 : zeroOf Tryz.prog 245 = some [Value.tuple #[Value.slice none 0 0, Value.string { data := #[] }]] := by kernel_rfl
@[simp] theorem pl245 : placesOf Tryz.prog 245 = none := by kernel_rfl
@[simp] theorem ty247 : tyOf Tryz.prog 247 = some (false, 1) := by kernel_rfl
@[simp] theorem zav247 : zAV Tryz.prog 247 [Value.tuple #[Value.slice none 0 0, Value.slice none 0 0]] = [.lit (Value.tuple #[Value.slice none 0 0, Value.slice none 0 0])] := by kernel_rfl
@[simp] theorem z247 : zeroOf Tryz.prog 247 = some [Value.tuple #[Value.slice none 0 0, Value.slice none 0 0]] := by kernel_rfl
@[simp] theorem pl247 : placesOf Tryz.prog 247 = none := by kernel_rfl
@[simp] theorem ty253 : tyOf Tryz.prog 253 = some (false, 1) := by kernel_rfl
@[simp] theorem zav253 : zAV Tryz.prog 253 [Value.tuple #[Value.int IntKind.u64 0, Value.int IntKind.u64 0]] = [.lit (Value.tuple #[Value.int IntKind.u64 0, Value.int IntKind.u64 0])] := by kernel_rfl
@[simp] theorem z253 : zeroOf Tryz.prog 253 = some [Value.tuple #[Value.int IntKind.u64 0, Value.int IntKind.u64 0]] := by kernel_rfl
@[simp] theorem pl253 : placesOf Tryz.prog 253 = none := by kernel_rfl
@[simp] theorem ty255 : tyOf Tryz.prog 255 = some (false, 1) := by kernel_rfl
@[simp] theorem zav255 : zAV Tryz.prog 255 [Value.tuple #[Value.int IntKind.u64 0, Value.nilIface]] = [.lit (Value.tuple #[Value.int IntKind.u64 0, Value.nilIface])] := by kernel_rfl
@[simp] theorem z255 : zeroOf Tryz.prog 255 = some [Value.tuple #[Value.int IntKind.u64 0, Value.nilIface]] := by kernel_rfl
@[simp] theorem pl255 : placesOf Tryz.prog 255 = none := by kernel_rfl
@[simp] theorem ty258 : tyOf Tryz.prog 258 = some (true, 3) := by kernel_rfl
@[simp] theorem zav258 : zAV Tryz.prog 258 [Value.string { data := #[] }, Value.string { data := #[] }, Value.nilIface] = [.lit (Value.string { data := #[] }), .lit (Value.string { data := #[] }), .lit (Value.nilIface)] := by kernel_rfl
@[simp] theorem z258 : zeroOf Tryz.prog 258 = some [Value.string { data := #[] }, Value.string { data := #[] }, Value.nilIface] := by kernel_rfl
@[simp] theorem fld258_0 : fldOf Tryz.prog 258 0 = some (0, false, 1) := by kernel_rfl
@[simp] theorem fld258_1 : fldOf Tryz.prog 258 1 = some (1, false, 1) := by kernel_rfl
@[simp] theorem fld258_2 : fldOf Tryz.prog 258 2 = some (2, false, 1) := by kernel_rfl
@[simp] theorem pl258 : placesOf Tryz.prog 258 = some [(0, 1), (1, 1), (2, 1)] := by kernel_rfl
@[simp] theorem ty264 : tyOf Tryz.prog 264 = some (true, 20) := by kernel_rfl
@[simp] theorem zav264 : zAV Tryz.prog 264 [Value.int IntKind.u64 0, Value.int IntKind.u64 0, Value.int IntKind.u64 0, Value.int IntKind.u64 0, Value.int IntKind.u64 0, Value.int IntKind.u64 0, Value.int IntKind.u64 0, Value.int IntKind.u64 0, Value.int IntKind.u64 0, Value.int IntKind.u64 0, Value.int IntKind.u64 0, Value.int IntKind.u64 0, Value.int IntKind.u64 0, Value.int IntKind.u64 0, Value.int IntKind.u64 0, Value.int IntKind.u64 0, Value.int IntKind.u64 0, Value.int IntKind.u64 0, Value.int IntKind.u64 0, Value.int IntKind.u64 0] = [.lit (Value.int IntKind.u64 0), .lit (Value.int IntKind.u64 0), .lit (Value.int IntKind.u64 0), .lit (Value.int IntKind.u64 0), .lit (Value.int IntKind.u64 0), .lit (Value.int IntKind.u64 0), .lit (Value.int IntKind.u64 0), .lit (Value.int IntKind.u64 0), .lit (Value.int IntKind.u64 0), .lit (Value.int IntKind.u64 0), .lit (Value.int IntKind.u64 0), .lit (Value.int IntKind.u64 0), .lit (Value.int IntKind.u64 0), .lit (Value.int IntKind.u64 0), .lit (Value.int IntKind.u64 0), .lit (Value.int IntKind.u64 0), .lit (Value.int IntKind.u64 0), .lit (Value.int IntKind.u64 0), .lit (Value.int IntKind.u64 0), .lit (Value.int IntKind.u64 0)] := by kernel_rfl
@[simp] theorem z264 : zeroOf Tryz.prog 264 = some [Value.int IntKind.u64 0, Value.int IntKind.u64 0, Value.int IntKind.u64 0, Value.int IntKind.u64 0, Value.int IntKind.u64 0, Value.int IntKind.u64 0, Value.int IntKind.u64 0, Value.int IntKind.u64 0, Value.int IntKind.u64 0, Value.int IntKind.u64 0, Value.int IntKind.u64 0, Value.int IntKind.u64 0, Value.int IntKind.u64 0, Value.int IntKind.u64 0, Value.int IntKind.u64 0, Value.int IntKind.u64 0, Value.int IntKind.u64 0, Value.int IntKind.u64 0, Value.int IntKind.u64 0, Value.int IntKind.u64 0] := by kernel_rfl
@[simp] theorem pl264 : placesOf Tryz.prog 264 = none := by kernel_rfl
@[simp] theorem ar264 : arOf Tryz.prog 264 = some (20, false, 1) := by kernel_rfl
@[simp] theorem nel264 : elOf Tryz.prog 264 = none := by kernel_rfl
@[simp] theorem ty265 : tyOf Tryz.prog 265 = some (true, 65) := by kernel_rfl
@[simp] theorem pl265 : placesOf Tryz.prog 265 = none := by kernel_rfl
@[simp] theorem ar265 : arOf Tryz.prog 265 = some (65, false, 1) := by kernel_rfl
@[simp] theorem nel265 : elOf Tryz.prog 265 = none := by kernel_rfl
@[simp] theorem ty269 : tyOf Tryz.prog 269 = some (false, 1) := by kernel_rfl
@[simp] theorem zav269 : zAV Tryz.prog 269 [Value.tuple #[Value.int IntKind.u64 0, Value.int IntKind.u64 0]] = [.lit (Value.tuple #[Value.int IntKind.u64 0, Value.int IntKind.u64 0])] := by kernel_rfl
@[simp] theorem z269 : zeroOf Tryz.prog 269 = some [Value.tuple #[Value.int IntKind.u64 0, Value.int IntKind.u64 0]] := by kernel_rfl
@[simp] theorem pl269 : placesOf Tryz.prog 269 = none := by kernel_rfl
@[simp] theorem ty272 : tyOf Tryz.prog 272 = some (false, 1) := by kernel_rfl
@[simp] theorem zav272 : zAV Tryz.prog 272 [Value.pointer none] = [.lit (Value.pointer none)] := by kernel_rfl
@[simp] theorem z272 : zeroOf Tryz.prog 272 = some [Value.pointer none] := by kernel_rfl
@[simp] theorem pl272 : placesOf Tryz.prog 272 = none := by kernel_rfl
@[simp] theorem pt272 : ptT Tryz.prog 272 = some 274 := by kernel_rfl
@[simp] theorem ty274 : tyOf Tryz.prog 274 = some (true, 1) := by kernel_rfl
@[simp] theorem zav274 : zAV Tryz.prog 274 [Value.string { data := #[] }] = [.lit (Value.string { data := #[] })] := by kernel_rfl
@[simp] theorem z274 : zeroOf Tryz.prog 274 = some [Value.string { data := #[] }] := by kernel_rfl
@[simp] theorem fld274_0 : fldOf Tryz.prog 274 0 = some (0, false, 1) := by kernel_rfl
@[simp] theorem pl274 : placesOf Tryz.prog 274 = some [(0, 1)] := by kernel_rfl
@[simp] theorem ty275 : tyOf Tryz.prog 275 = some (true, 256) := by kernel_rfl
@[simp] theorem pl275 : placesOf Tryz.prog 275 = none := by kernel_rfl
@[simp] theorem ar275 : arOf Tryz.prog 275 = some (256, false, 1) := by kernel_rfl
@[simp] theorem nel275 : elOf Tryz.prog 275 = none := by kernel_rfl
@[simp] theorem ty277 : tyOf Tryz.prog 277 = some (true, 2) := by kernel_rfl
@[simp] theorem zav277 : zAV Tryz.prog 277 [Value.int IntKind.u8 0, Value.int IntKind.u8 0] = [.lit (Value.int IntKind.u8 0), .lit (Value.int IntKind.u8 0)] := by kernel_rfl
@[simp] theorem z277 : zeroOf Tryz.prog 277 = some [Value.int IntKind.u8 0, Value.int IntKind.u8 0] := by kernel_rfl
@[simp] theorem fld277_0 : fldOf Tryz.prog 277 0 = some (0, false, 1) := by kernel_rfl
@[simp] theorem fld277_1 : fldOf Tryz.prog 277 1 = some (1, false, 1) := by kernel_rfl
@[simp] theorem pl277 : placesOf Tryz.prog 277 = some [(0, 1), (1, 1)] := by kernel_rfl
@[simp] theorem ty278 : tyOf Tryz.prog 278 = some (true, 32) := by kernel_rfl
@[simp] theorem zav278 : zAV Tryz.prog 278 [Value.int IntKind.u8 0, Value.int IntKind.u8 0, Value.int IntKind.u8 0, Value.int IntKind.u8 0, Value.int IntKind.u8 0, Value.int IntKind.u8 0, Value.int IntKind.u8 0, Value.int IntKind.u8 0, Value.int IntKind.u8 0, Value.int IntKind.u8 0, Value.int IntKind.u8 0, Value.int IntKind.u8 0, Value.int IntKind.u8 0, Value.int IntKind.u8 0, Value.int IntKind.u8 0, Value.int IntKind.u8 0, Value.int IntKind.u8 0, Value.int IntKind.u8 0, Value.int IntKind.u8 0, Value.int IntKind.u8 0, Value.int IntKind.u8 0, Value.int IntKind.u8 0, Value.int IntKind.u8 0, Value.int IntKind.u8 0, Value.int IntKind.u8 0, Value.int IntKind.u8 0, Value.int IntKind.u8 0, Value.int IntKind.u8 0, Value.int IntKind.u8 0, Value.int IntKind.u8 0, Value.int IntKind.u8 0, Value.int IntKind.u8 0] = [.lit (Value.int IntKind.u8 0), .lit (Value.int IntKind.u8 0), .lit (Value.int IntKind.u8 0), .lit (Value.int IntKind.u8 0), .lit (Value.int IntKind.u8 0), .lit (Value.int IntKind.u8 0), .lit (Value.int IntKind.u8 0), .lit (Value.int IntKind.u8 0), .lit (Value.int IntKind.u8 0), .lit (Value.int IntKind.u8 0), .lit (Value.int IntKind.u8 0), .lit (Value.int IntKind.u8 0), .lit (Value.int IntKind.u8 0), .lit (Value.int IntKind.u8 0), .lit (Value.int IntKind.u8 0), .lit (Value.int IntKind.u8 0), .lit (Value.int IntKind.u8 0), .lit (Value.int IntKind.u8 0), .lit (Value.int IntKind.u8 0), .lit (Value.int IntKind.u8 0), .lit (Value.int IntKind.u8 0), .lit (Value.int IntKind.u8 0), .lit (Value.int IntKind.u8 0), .lit (Value.int IntKind.u8 0), .lit (Value.int IntKind.u8 0), .lit (Value.int IntKind.u8 0), .lit (Value.int IntKind.u8 0), .lit (Value.int IntKind.u8 0), .lit (Value.int IntKind.u8 0), .lit (Value.int IntKind.u8 0), .lit (Value.int IntKind.u8 0), .lit (Value.int IntKind.u8 0)] := by kernel_rfl
@[simp] theorem z278 : zeroOf Tryz.prog 278 = some [Value.int IntKind.u8 0, Value.int IntKind.u8 0, Value.int IntKind.u8 0, Value.int IntKind.u8 0, Value.int IntKind.u8 0, Value.int IntKind.u8 0, Value.int IntKind.u8 0, Value.int IntKind.u8 0, Value.int IntKind.u8 0, Value.int IntKind.u8 0, Value.int IntKind.u8 0, Value.int IntKind.u8 0, Value.int IntKind.u8 0, Value.int IntKind.u8 0, Value.int IntKind.u8 0, Value.int IntKind.u8 0, Value.int IntKind.u8 0, Value.int IntKind.u8 0, Value.int IntKind.u8 0, Value.int IntKind.u8 0, Value.int IntKind.u8 0, Value.int IntKind.u8 0, Value.int IntKind.u8 0, Value.int IntKind.u8 0, Value.int IntKind.u8 0, Value.int IntKind.u8 0, Value.int IntKind.u8 0, Value.int IntKind.u8 0, Value.int IntKind.u8 0, Value.int IntKind.u8 0, Value.int IntKind.u8 0, Value.int IntKind.u8 0] := by kernel_rfl
@[simp] theorem pl278 : placesOf Tryz.prog 278 = none := by kernel_rfl
@[simp] theorem ar278 : arOf Tryz.prog 278 = some (16, true, 2) := by kernel_rfl
@[simp] theorem nel278 : elOf Tryz.prog 278 = none := by kernel_rfl
@[simp] theorem ty280 : tyOf Tryz.prog 280 = some (true, 32) := by kernel_rfl
@[simp] theorem zav280 : zAV Tryz.prog 280 [Value.int IntKind.u8 0, Value.int IntKind.u8 0, Value.int IntKind.u8 0, Value.int IntKind.u8 0, Value.int IntKind.u8 0, Value.int IntKind.u8 0, Value.int IntKind.u8 0, Value.int IntKind.u8 0, Value.int IntKind.u8 0, Value.int IntKind.u8 0, Value.int IntKind.u8 0, Value.int IntKind.u8 0, Value.int IntKind.u8 0, Value.int IntKind.u8 0, Value.int IntKind.u8 0, Value.int IntKind.u8 0, Value.int IntKind.u8 0, Value.int IntKind.u8 0, Value.int IntKind.u8 0, Value.int IntKind.u8 0, Value.int IntKind.u8 0, Value.int IntKind.u8 0, Value.int IntKind.u8 0, Value.int IntKind.u8 0, Value.int IntKind.u8 0, Value.int IntKind.u8 0, Value.int IntKind.u8 0, Value.int IntKind.u8 0, Value.int IntKind.u8 0, Value.int IntKind.u8 0, Value.int IntKind.u8 0, Value.int IntKind.u8 0] = [.lit (Value.int IntKind.u8 0), .lit (Value.int IntKind.u8 0), .lit (Value.int IntKind.u8 0), .lit (Value.int IntKind.u8 0), .lit (Value.int IntKind.u8 0), .lit (Value.int IntKind.u8 0), .lit (Value.int IntKind.u8 0), .lit (Value.int IntKind.u8 0), .lit (Value.int IntKind.u8 0), .lit (Value.int IntKind.u8 0), .lit (Value.int IntKind.u8 0), .lit (Value.int IntKind.u8 0), .lit (Value.int IntKind.u8 0), .lit (Value.int IntKind.u8 0), .lit (Value.int IntKind.u8 0), .lit (Value.int IntKind.u8 0), .lit (Value.int IntKind.u8 0), .lit (Value.int IntKind.u8 0), .lit (Value.int IntKind.u8 0), .lit (Value.int IntKind.u8 0), .lit (Value.int IntKind.u8 0), .lit (Value.int IntKind.u8 0), .lit (Value.int IntKind.u8 0), .lit (Value.int IntKind.u8 0), .lit (Value.int IntKind.u8 0), .lit (Value.int IntKind.u8 0), .lit (Value.int IntKind.u8 0), .lit (Value.int IntKind.u8 0), .lit (Value.int IntKind.u8 0), .lit (Value.int IntKind.u8 0), .lit (Value.int IntKind.u8 0), .lit (Value.int IntKind.u8 0)] := by kernel_rfl
@[simp] theorem z280 : zeroOf Tryz.prog 280 = some [Value.int IntKind.u8 0, Value.int IntKind.u8 0, Value.int IntKind.u8 0, Value.int IntKind.u8 0, Value.int IntKind.u8 0, Value.int IntKind.u8 0, Value.int IntKind.u8 0, Value.int IntKind.u8 0, Value.int IntKind.u8 0, Value.int IntKind.u8 0, Value.int IntKind.u8 0, Value.int IntKind.u8 0, Value.int IntKind.u8 0, Value.int IntKind.u8 0, Value.int IntKind.u8 0, Value.int IntKind.u8 0, Value.int IntKind.u8 0, Value.int IntKind.u8 0, Value.int IntKind.u8 0, Value.int IntKind.u8 0, Value.int IntKind.u8 0, Value.int IntKind.u8 0, Value.int IntKind.u8 0, Value.int IntKind.u8 0, Value.int IntKind.u8 0, Value.int IntKind.u8 0, Value.int IntKind.u8 0, Value.int IntKind.u8 0, Value.int IntKind.u8 0, Value.int IntKind.u8 0, Value.int IntKind.u8 0, Value.int IntKind.u8 0] := by kernel_rfl
@[simp] theorem pl280 : placesOf Tryz.prog 280 = none := by kernel_rfl
@[simp] theorem ar280 : arOf Tryz.prog 280 = some (32, false, 1) := by kernel_rfl
@[simp] theorem nel280 : elOf Tryz.prog 280 = none := by kernel_rfl
@[simp] theorem ty281 : tyOf Tryz.prog 281 = some (true, 64) := by kernel_rfl
@[simp] theorem pl281 : placesOf Tryz.prog 281 = none := by kernel_rfl
@[simp] theorem ar281 : arOf Tryz.prog 281 = some (64, false, 1) := by kernel_rfl
@[simp] theorem nel281 : elOf Tryz.prog 281 = none := by kernel_rfl
end Go.Proofs.YtjpoanaoaeaneaaGreatDoor
