/- Facts on the types of the program. -/
import Derived.Test.YtjobiobdpnhooaaGreatDoorQ3
import Derived.Test.YtjobiobdpnhooaaGreatDoorProg
import Derived.KernelRfl
set_option linter.all false
set_option linter.all false
namespace Go.Proofs.YtjobiobdpnhooaaGreatDoor
open Go.RowKit
@[simp] theorem ty0 : tyOf Tryz.prog 0 = some (false, 1) := by kernel_rfl
@[simp] theorem zav0 : zAV Tryz.prog 0 [Value.tuple #[]] = [.lit (Value.tuple #[])] := by kernel_rfl
@[simp] theorem z0 : zeroOf Tryz.prog 0 = some [Value.tuple #[]] := by kernel_rfl
@[simp] theorem pl0 : placesOf Tryz.prog 0 = none := by kernel_rfl
@[simp] theorem ty1 : tyOf Tryz.prog 1 = some (false, 1) := by kernel_rfl
@[simp] theorem pl1 : placesOf Tryz.prog 1 = none := by kernel_rfl
@[simp] theorem ty2 : tyOf Tryz.prog 2 = some (false, 1) := by kernel_rfl
@[simp] theorem zav2 : zAV Tryz.prog 2 [Value.int IntKind.i64 0] = [.lit (Value.int IntKind.i64 0)] := by kernel_rfl
@[simp] theorem z2 : zeroOf Tryz.prog 2 = some [Value.int IntKind.i64 0] := by kernel_rfl
@[simp] theorem pl2 : placesOf Tryz.prog 2 = none := by kernel_rfl
@[simp] theorem in2 : intT Tryz.prog 2 = some .i64 := by kernel_rfl
@[simp] theorem un2 : Tryz.prog.underlying 2 = some (.int .i64) := by kernel_rfl
@[simp] theorem ty3 : tyOf Tryz.prog 3 = some (false, 1) := by kernel_rfl
@[simp] theorem zav3 : zAV Tryz.prog 3 [Value.int IntKind.i64 0] = [.lit (Value.int IntKind.i64 0)] := by kernel_rfl
@[simp] theorem z3 : zeroOf Tryz.prog 3 = some [Value.int IntKind.i64 0] := by kernel_rfl
@[simp] theorem pl3 : placesOf Tryz.prog 3 = none := by kernel_rfl
@[simp] theorem in3 : intT Tryz.prog 3 = some .i64 := by kernel_rfl
@[simp] theorem un3 : Tryz.prog.underlying 3 = some (.int .i64) := by kernel_rfl
@[simp] theorem ty4 : tyOf Tryz.prog 4 = some (false, 1) := by kernel_rfl
@[simp] theorem zav4 : zAV Tryz.prog 4 [Value.bool false] = [.lit (Value.bool false)] := by kernel_rfl
@[simp] theorem z4 : zeroOf Tryz.prog 4 = some [Value.bool false] := by kernel_rfl
@[simp] theorem pl4 : placesOf Tryz.prog 4 = none := by kernel_rfl
@[simp] theorem bo4 : boolT Tryz.prog 4 = true := by kernel_rfl
@[simp] theorem ty5 : tyOf Tryz.prog 5 = some (false, 1) := by kernel_rfl
@[simp] theorem zav5 : zAV Tryz.prog 5 [Value.int IntKind.u8 0] = [.lit (Value.int IntKind.u8 0)] := by kernel_rfl
@[simp] theorem z5 : zeroOf Tryz.prog 5 = some [Value.int IntKind.u8 0] := by kernel_rfl
@[simp] theorem pl5 : placesOf Tryz.prog 5 = none := by kernel_rfl
@[simp] theorem in5 : intT Tryz.prog 5 = some .u8 := by kernel_rfl
@[simp] theorem un5 : Tryz.prog.underlying 5 = some (.int .u8) := by kernel_rfl
@[simp] theorem ty6 : tyOf Tryz.prog 6 = some (false, 1) := by kernel_rfl
@[simp] theorem zav6 : zAV Tryz.prog 6 [Value.int IntKind.u8 0] = [.lit (Value.int IntKind.u8 0)] := by kernel_rfl
@[simp] theorem z6 : zeroOf Tryz.prog 6 = some [Value.int IntKind.u8 0] := by kernel_rfl
@[simp] theorem pl6 : placesOf Tryz.prog 6 = none := by kernel_rfl
@[simp] theorem in6 : intT Tryz.prog 6 = some .u8 := by kernel_rfl
@[simp] theorem un6 : Tryz.prog.underlying 6 = some (.int .u8) := by kernel_rfl
@[simp] theorem ty7 : tyOf Tryz.prog 7 = some (true, 4) := by kernel_rfl
@[simp] theorem zav7 : zAV Tryz.prog 7 [Value.int IntKind.i64 0, Value.int IntKind.i64 0, Value.bool false, Value.int IntKind.u8 0] = [.lit (Value.int IntKind.i64 0), .lit (Value.int IntKind.i64 0), .lit (Value.bool false), .lit (Value.int IntKind.u8 0)] := by kernel_rfl
@[simp] theorem z7 : zeroOf Tryz.prog 7 = some [Value.int IntKind.i64 0, Value.int IntKind.i64 0, Value.bool false, Value.int IntKind.u8 0] := by kernel_rfl
@[simp] theorem fld7_0 : fldOf Tryz.prog 7 0 = some (0, false, 1) := by kernel_rfl
@[simp] theorem fld7_1 : fldOf Tryz.prog 7 1 = some (1, false, 1) := by kernel_rfl
@[simp] theorem fld7_2 : fldOf Tryz.prog 7 2 = some (2, false, 1) := by kernel_rfl
@[simp] theorem fld7_3 : fldOf Tryz.prog 7 3 = some (3, false, 1) := by kernel_rfl
@[simp] theorem pl7 : placesOf Tryz.prog 7 = some [(0, 1), (1, 1), (2, 1), (3, 1)] := by kernel_rfl
@[simp] theorem ty8 : tyOf Tryz.prog 8 = some (true, 4) := by kernel_rfl
@[simp] theorem zav8 : zAV Tryz.prog 8 [Value.int IntKind.i64 0, Value.int IntKind.i64 0, Value.bool false, Value.int IntKind.u8 0] = [.lit (Value.int IntKind.i64 0), .lit (Value.int IntKind.i64 0), .lit (Value.bool false), .lit (Value.int IntKind.u8 0)] := by kernel_rfl
@[simp] theorem z8 : zeroOf Tryz.prog 8 = some [Value.int IntKind.i64 0, Value.int IntKind.i64 0, Value.bool false, Value.int IntKind.u8 0] := by kernel_rfl
@[simp] theorem fld8_0 : fldOf Tryz.prog 8 0 = some (0, false, 1) := by kernel_rfl
@[simp] theorem fld8_1 : fldOf Tryz.prog 8 1 = some (1, false, 1) := by kernel_rfl
@[simp] theorem fld8_2 : fldOf Tryz.prog 8 2 = some (2, false, 1) := by kernel_rfl
@[simp] theorem fld8_3 : fldOf Tryz.prog 8 3 = some (3, false, 1) := by kernel_rfl
@[simp] theorem pl8 : placesOf Tryz.prog 8 = some [(0, 1), (1, 1), (2, 1), (3, 1)] := by kernel_rfl
@[simp] theorem ty9 : tyOf Tryz.prog 9 = some (false, 1) := by kernel_rfl
@[simp] theorem zav9 : zAV Tryz.prog 9 [Value.string { data := #[] }] = [.lit (Value.string { data := #[] })] := by kernel_rfl
@[simp] theorem z9 : zeroOf Tryz.prog 9 = some [Value.string { data := #[] }] := by kernel_rfl
@[simp] theorem pl9 : placesOf Tryz.prog 9 = none := by kernel_rfl
@[simp] theorem st9 : strT Tryz.prog 9 = true := by kernel_rfl
@[simp] theorem ty10 : tyOf Tryz.prog 10 = some (false, 1) := by kernel_rfl
@[simp] theorem zav10 : zAV Tryz.prog 10 [Value.string { data := #[] }] = [.lit (Value.string { data := #[] })] := by kernel_rfl
@[simp] theorem z10 : zeroOf Tryz.prog 10 = some [Value.string { data := #[] }] := by kernel_rfl
@[simp] theorem pl10 : placesOf Tryz.prog 10 = none := by kernel_rfl
@[simp] theorem st10 : strT Tryz.prog 10 = true := by kernel_rfl
@[simp] theorem ty11 : tyOf Tryz.prog 11 = some (false, 1) := by kernel_rfl
@[simp] theorem zav11 : zAV Tryz.prog 11 [Value.string { data := #[] }] = [.lit (Value.string { data := #[] })] := by kernel_rfl
@[simp] theorem z11 : zeroOf Tryz.prog 11 = some [Value.string { data := #[] }] := by kernel_rfl
@[simp] theorem pl11 : placesOf Tryz.prog 11 = none := by kernel_rfl
@[simp] theorem st11 : strT Tryz.prog 11 = true := by kernel_rfl
@[simp] theorem ty12 : tyOf Tryz.prog 12 = some (false, 1) := by kernel_rfl
@[simp] theorem zav12 : zAV Tryz.prog 12 [Value.int IntKind.u64 0] = [.lit (Value.int IntKind.u64 0)] := by kernel_rfl
@[simp] theorem z12 : zeroOf Tryz.prog 12 = some [Value.int IntKind.u64 0] := by kernel_rfl
@[simp] theorem pl12 : placesOf Tryz.prog 12 = none := by kernel_rfl
@[simp] theorem in12 : intT Tryz.prog 12 = some .u64 := by kernel_rfl
@[simp] theorem un12 : Tryz.prog.underlying 12 = some (.int .u64) := by kernel_rfl
@[simp] theorem ty13 : tyOf Tryz.prog 13 = some (true, 2) := by kernel_rfl
@[simp] theorem zav13 : zAV Tryz.prog 13 [Value.string { data := #[] }, Value.int IntKind.u64 0] = [.lit (Value.string { data := #[] }), .lit (Value.int IntKind.u64 0)] := by kernel_rfl
@[simp] theorem z13 : zeroOf Tryz.prog 13 = some [Value.string { data := #[] }, Value.int IntKind.u64 0] := by kernel_rfl
@[simp] theorem fld13_0 : fldOf Tryz.prog 13 0 = some (0, false, 1) := by kernel_rfl
@[simp] theorem fld13_1 : fldOf Tryz.prog 13 1 = some (1, false, 1) := by kernel_rfl
@[simp] theorem pl13 : placesOf Tryz.prog 13 = some [(0, 1), (1, 1)] := by kernel_rfl
@[simp] theorem ty14 : tyOf Tryz.prog 14 = some (true, 2) := by kernel_rfl
@[simp] theorem zav14 : zAV Tryz.prog 14 [Value.string { data := #[] }, Value.int IntKind.u64 0] = [.lit (Value.string { data := #[] }), .lit (Value.int IntKind.u64 0)] := by kernel_rfl
@[simp] theorem z14 : zeroOf Tryz.prog 14 = some [Value.string { data := #[] }, Value.int IntKind.u64 0] := by kernel_rfl
@[simp] theorem fld14_0 : fldOf Tryz.prog 14 0 = some (0, false, 1) := by kernel_rfl
@[simp] theorem fld14_1 : fldOf Tryz.prog 14 1 = some (1, false, 1) := by kernel_rfl
@[simp] theorem pl14 : placesOf Tryz.prog 14 = some [(0, 1), (1, 1)] := by kernel_rfl
@[simp] theorem ty15 : tyOf Tryz.prog 15 = some (false, 1) := by kernel_rfl
@[simp] theorem zav15 : zAV Tryz.prog 15 [Value.pointer none] = [.lit (Value.pointer none)] := by kernel_rfl
@[simp] theorem z15 : zeroOf Tryz.prog 15 = some [Value.pointer none] := by kernel_rfl
@[simp] theorem pl15 : placesOf Tryz.prog 15 = none := by kernel_rfl
@[simp] theorem ty16 : tyOf Tryz.prog 16 = some (false, 1) := by kernel_rfl
@[simp] theorem zav16 : zAV Tryz.prog 16 [Value.pointer none] = [.lit (Value.pointer none)] := by kernel_rfl
@[simp] theorem z16 : zeroOf Tryz.prog 16 = some [Value.pointer none] := by kernel_rfl
@[simp] theorem pl16 : placesOf Tryz.prog 16 = none := by kernel_rfl
@[simp] theorem ty17 : tyOf Tryz.prog 17 = some (false, 1) := by kernel_rfl
@[simp] theorem zav17 : zAV Tryz.prog 17 [Value.pointer none] = [.lit (Value.pointer none)] := by kernel_rfl
@[simp] theorem z17 : zeroOf Tryz.prog 17 = some [Value.pointer none] := by kernel_rfl
@[simp] theorem pl17 : placesOf Tryz.prog 17 = none := by kernel_rfl
@[simp] theorem ty18 : tyOf Tryz.prog 18 = some (true, 1) := by kernel_rfl
@[simp] theorem zav18 : zAV Tryz.prog 18 [Value.pointer none] = [.lit (Value.pointer none)] := by kernel_rfl
@[simp] theorem z18 : zeroOf Tryz.prog 18 = some [Value.pointer none] := by kernel_rfl
@[simp] theorem fld18_0 : fldOf Tryz.prog 18 0 = some (0, false, 1) := by kernel_rfl
@[simp] theorem pl18 : placesOf Tryz.prog 18 = some [(0, 1)] := by kernel_rfl
@[simp] theorem ty19 : tyOf Tryz.prog 19 = some (true, 1) := by kernel_rfl
@[simp] theorem zav19 : zAV Tryz.prog 19 [Value.pointer none] = [.lit (Value.pointer none)] := by kernel_rfl
@[simp] theorem z19 : zeroOf Tryz.prog 19 = some [Value.pointer none] := by kernel_rfl
@[simp] theorem fld19_0 : fldOf Tryz.prog 19 0 = some (0, false, 1) := by kernel_rfl
@[simp] theorem pl19 : placesOf Tryz.prog 19 = some [(0, 1)] := by kernel_rfl
@[simp] theorem ty20 : tyOf Tryz.prog 20 = some (false, 1) := by kernel_rfl
@[simp] theorem pl20 : placesOf Tryz.prog 20 = none := by kernel_rfl
@[simp] theorem ty21 : tyOf Tryz.prog 21 = some (false, 1) := by kernel_rfl
@[simp] theorem zav21 : zAV Tryz.prog 21 [Value.int IntKind.i32 0] = [.lit (Value.int IntKind.i32 0)] := by kernel_rfl
@[simp] theorem z21 : zeroOf Tryz.prog 21 = some [Value.int IntKind.i32 0] := by kernel_rfl
@[simp] theorem pl21 : placesOf Tryz.prog 21 = none := by kernel_rfl
@[simp] theorem in21 : intT Tryz.prog 21 = some .i32 := by kernel_rfl
@[simp] theorem un21 : Tryz.prog.underlying 21 = some (.int .i32) := by kernel_rfl
@[simp] theorem ty22 : tyOf Tryz.prog 22 = some (false, 1) := by kernel_rfl
@[simp] theorem zav22 : zAV Tryz.prog 22 [Value.slice none 0 0] = [.nl 1] := by kernel_rfl
@[simp] theorem z22 : zeroOf Tryz.prog 22 = some [Value.slice none 0 0] := by kernel_rfl
@[simp] theorem pl22 : placesOf Tryz.prog 22 = none := by kernel_rfl
@[simp] theorem el22 : elOf Tryz.prog 22 = some (5, false, 1, 1, [Value.int IntKind.u8 0]) := by kernel_rfl
@[simp] theorem ty23 : tyOf Tryz.prog 23 = some (false, 1) := by kernel_rfl
@[simp] theorem zav23 : zAV Tryz.prog 23 [Value.slice none 0 0] = [.nl 1] := by kernel_rfl
@[simp] theorem z23 : zeroOf Tryz.prog 23 = some [Value.slice none 0 0] := by kernel_rfl
@[simp] theorem pl23 : placesOf Tryz.prog 23 = none := by kernel_rfl
@[simp] theorem el23 : elOf Tryz.prog 23 = some (128, false, 1, 4, [Value.int IntKind.u32 0]) := by kernel_rfl
@[simp] theorem ty24 : tyOf Tryz.prog 24 = some (false, 1) := by kernel_rfl
@[simp] theorem zav24 : zAV Tryz.prog 24 [Value.slice none 0 0] = [.nl 1] := by kernel_rfl
@[simp] theorem z24 : zeroOf Tryz.prog 24 = some [Value.slice none 0 0] := by kernel_rfl
@[simp] theorem pl24 : placesOf Tryz.prog 24 = none := by kernel_rfl
@[simp] theorem el24 : elOf Tryz.prog 24 = some (128, false, 1, 4, [Value.int IntKind.u32 0]) := by kernel_rfl
@[simp] theorem ty25 : tyOf Tryz.prog 25 = some (true, 3) := by kernel_rfl
@[simp] theorem zav25 : zAV Tryz.prog 25 [Value.bool false, Value.slice none 0 0, Value.slice none 0 0] = [.lit (Value.bool false), .nl 1, .nl 1] := by kernel_rfl
@[simp] theorem z25 : zeroOf Tryz.prog 25 = some [Value.bool false, Value.slice none 0 0, Value.slice none 0 0] := by kernel_rfl
@[simp] theorem fld25_0 : fldOf Tryz.prog 25 0 = some (0, false, 1) := by kernel_rfl
@[simp] theorem fld25_1 : fldOf Tryz.prog 25 1 = some (1, false, 1) := by kernel_rfl
@[simp] theorem fld25_2 : fldOf Tryz.prog 25 2 = some (2, false, 1) := by kernel_rfl
@[simp] theorem pl25 : placesOf Tryz.prog 25 = some [(0, 1), (1, 1), (2, 1)] := by kernel_rfl
@[simp] theorem ty26 : tyOf Tryz.prog 26 = some (true, 3) := by kernel_rfl
@[simp] theorem zav26 : zAV Tryz.prog 26 [Value.bool false, Value.slice none 0 0, Value.slice none 0 0] = [.lit (Value.bool false), .nl 1, .nl 1] := by kernel_rfl
@[simp] theorem z26 : zeroOf Tryz.prog 26 = some [Value.bool false, Value.slice none 0 0, Value.slice none 0 0] := by kernel_rfl
@[simp] theorem fld26_0 : fldOf Tryz.prog 26 0 = some (0, false, 1) := by kernel_rfl
@[simp] theorem fld26_1 : fldOf Tryz.prog 26 1 = some (1, false, 1) := by kernel_rfl
@[simp] theorem fld26_2 : fldOf Tryz.prog 26 2 = some (2, false, 1) := by kernel_rfl
@[simp] theorem pl26 : placesOf Tryz.prog 26 = some [(0, 1), (1, 1), (2, 1)] := by kernel_rfl
@[simp] theorem ty27 : tyOf Tryz.prog 27 = some (true, 5) := by kernel_rfl
@[simp] theorem zav27 : zAV Tryz.prog 27 [Value.int IntKind.i64 0, Value.int IntKind.i64 0, Value.bool false, Value.slice none 0 0, Value.slice none 0 0] = [.lit (Value.int IntKind.i64 0), .lit (Value.int IntKind.i64 0), .lit (Value.bool false), .nl 1, .nl 1] := by kernel_rfl
@[simp] theorem z27 : zeroOf Tryz.prog 27 = some [Value.int IntKind.i64 0, Value.int IntKind.i64 0, Value.bool false, Value.slice none 0 0, Value.slice none 0 0] := by kernel_rfl
@[simp] theorem fld27_0 : fldOf Tryz.prog 27 0 = some (0, false, 1) := by kernel_rfl
@[simp] theorem fld27_1 : fldOf Tryz.prog 27 1 = some (1, false, 1) := by kernel_rfl
@[simp] theorem fld27_2 : fldOf Tryz.prog 27 2 = some (2, true, 3) := by kernel_rfl
@[simp] theorem pl27 : placesOf Tryz.prog 27 = some [(0, 1), (1, 1), (2, 3)] := by kernel_rfl
@[simp] theorem ty28 : tyOf Tryz.prog 28 = some (true, 5) := by kernel_rfl
@[simp] theorem zav28 : zAV Tryz.prog 28 [Value.int IntKind.i64 0, Value.int IntKind.i64 0, Value.bool false, Value.slice none 0 0, Value.slice none 0 0] = [.lit (Value.int IntKind.i64 0), .lit (Value.int IntKind.i64 0), .lit (Value.bool false), .nl 1, .nl 1] := by kernel_rfl
@[simp] theorem z28 : zeroOf Tryz.prog 28 = some [Value.int IntKind.i64 0, Value.int IntKind.i64 0, Value.bool false, Value.slice none 0 0, Value.slice none 0 0] := by kernel_rfl
@[simp] theorem fld28_0 : fldOf Tryz.prog 28 0 = some (0, false, 1) := by kernel_rfl
@[simp] theorem fld28_1 : fldOf Tryz.prog 28 1 = some (1, false, 1) := by kernel_rfl
@[simp] theorem fld28_2 : fldOf Tryz.prog 28 2 = some (2, true, 3) := by kernel_rfl
@[simp] theorem pl28 : placesOf Tryz.prog 28 = some [(0, 1), (1, 1), (2, 3)] := by kernel_rfl
@[simp] theorem ty29 : tyOf Tryz.prog 29 = some (false, 1) := by kernel_rfl
@[simp] theorem pl29 : placesOf Tryz.prog 29 = none := by kernel_rfl
@[simp] theorem ty30 : tyOf Tryz.prog 30 = some (false, 1) := by kernel_rfl
@[simp] theorem pl30 : placesOf Tryz.prog 30 = none := by kernel_rfl
@[simp] theorem ty31 : tyOf Tryz.prog 31 = some (false, 1) := by kernel_rfl
@[simp] theorem zav31 : zAV Tryz.prog 31 [Value.slice none 0 0] = [.nl 4] := by kernel_rfl
@[simp] theorem z31 : zeroOf Tryz.prog 31 = some [Value.slice none 0 0] := by kernel_rfl
@[simp] theorem pl31 : placesOf Tryz.prog 31 = none := by kernel_rfl
@[simp] theorem el31 : elOf Tryz.prog 31 = some (39, true, 4, 80, [Value.slice none 0 0, Value.bool false, Value.slice none 0 0, Value.slice none 0 0]) := by kernel_rfl
@[simp] theorem ty32 : tyOf Tryz.prog 32 = some (true, 3) := by kernel_rfl
@[simp] theorem zav32 : zAV Tryz.prog 32 [Value.int IntKind.i64 0, Value.slice none 0 0, Value.slice none 0 0] = [.lit (Value.int IntKind.i64 0), .nl 4, .nl 4] := by kernel_rfl
@[simp] theorem z32 : zeroOf Tryz.prog 32 = some [Value.int IntKind.i64 0, Value.slice none 0 0, Value.slice none 0 0] := by kernel_rfl
@[simp] theorem fld32_0 : fldOf Tryz.prog 32 0 = some (0, false, 1) := by kernel_rfl
@[simp] theorem fld32_1 : fldOf Tryz.prog 32 1 = some (1, false, 1) := by kernel_rfl
@[simp] theorem fld32_2 : fldOf Tryz.prog 32 2 = some (2, false, 1) := by kernel_rfl
@[simp] theorem pl32 : placesOf Tryz.prog 32 = some [(0, 1), (1, 1), (2, 1)] := by kernel_rfl
@[simp] theorem ty33 : tyOf Tryz.prog 33 = some (true, 3) := by kernel_rfl
@[simp] theorem zav33 : zAV Tryz.prog 33 [Value.int IntKind.i64 0, Value.slice none 0 0, Value.slice none 0 0] = [.lit (Value.int IntKind.i64 0), .nl 4, .nl 4] := by kernel_rfl
@[simp] theorem z33 : zeroOf Tryz.prog 33 = some [Value.int IntKind.i64 0, Value.slice none 0 0, Value.slice none 0 0] := by kernel_rfl
@[simp] theorem fld33_0 : fldOf Tryz.prog 33 0 = some (0, false, 1) := by kernel_rfl
@[simp] theorem fld33_1 : fldOf Tryz.prog 33 1 = some (1, false, 1) := by kernel_rfl
@[simp] theorem fld33_2 : fldOf Tryz.prog 33 2 = some (2, false, 1) := by kernel_rfl
@[simp] theorem pl33 : placesOf Tryz.prog 33 = some [(0, 1), (1, 1), (2, 1)] := by kernel_rfl
@[simp] theorem ty34 : tyOf Tryz.prog 34 = some (false, 1) := by kernel_rfl
@[simp] theorem zav34 : zAV Tryz.prog 34 [Value.slice none 0 0] = [.nl 3] := by kernel_rfl
@[simp] theorem z34 : zeroOf Tryz.prog 34 = some [Value.slice none 0 0] := by kernel_rfl
@[simp] theorem pl34 : placesOf Tryz.prog 34 = none := by kernel_rfl
@[simp] theorem el34 : elOf Tryz.prog 34 = some (26, true, 3, 56, [Value.bool false, Value.slice none 0 0, Value.slice none 0 0]) := by kernel_rfl
@[simp] theorem ty35 : tyOf Tryz.prog 35 = some (true, 3) := by kernel_rfl
@[simp] theorem zav35 : zAV Tryz.prog 35 [Value.slice none 0 0, Value.slice none 0 0, Value.slice none 0 0] = [.nl 3, .nl 3, .nl 4] := by kernel_rfl
@[simp] theorem z35 : zeroOf Tryz.prog 35 = some [Value.slice none 0 0, Value.slice none 0 0, Value.slice none 0 0] := by kernel_rfl
@[simp] theorem fld35_0 : fldOf Tryz.prog 35 0 = some (0, false, 1) := by kernel_rfl
@[simp] theorem fld35_1 : fldOf Tryz.prog 35 1 = some (1, false, 1) := by kernel_rfl
@[simp] theorem fld35_2 : fldOf Tryz.prog 35 2 = some (2, false, 1) := by kernel_rfl
@[simp] theorem pl35 : placesOf Tryz.prog 35 = some [(0, 1), (1, 1), (2, 1)] := by kernel_rfl
@[simp] theorem ty36 : tyOf Tryz.prog 36 = some (true, 3) := by kernel_rfl
@[simp] theorem zav36 : zAV Tryz.prog 36 [Value.slice none 0 0, Value.slice none 0 0, Value.slice none 0 0] = [.nl 3, .nl 3, .nl 4] := by kernel_rfl
@[simp] theorem z36 : zeroOf Tryz.prog 36 = some [Value.slice none 0 0, Value.slice none 0 0, Value.slice none 0 0] := by kernel_rfl
@[simp] theorem fld36_0 : fldOf Tryz.prog 36 0 = some (0, false, 1) := by kernel_rfl
@[simp] theorem fld36_1 : fldOf Tryz.prog 36 1 = some (1, false, 1) := by kernel_rfl
@[simp] theorem fld36_2 : fldOf Tryz.prog 36 2 = some (2, false, 1) := by kernel_rfl
@[simp] theorem pl36 : placesOf Tryz.prog 36 = some [(0, 1), (1, 1), (2, 1)] := by kernel_rfl
@[simp] theorem ty37 : tyOf Tryz.prog 37 = some (false, 1) := by kernel_rfl
@[simp] theorem zav37 : zAV Tryz.prog 37 [Value.slice none 0 0] = [.nl 4] := by kernel_rfl
@[simp] theorem z37 : zeroOf Tryz.prog 37 = some [Value.slice none 0 0] := by kernel_rfl
@[simp] theorem pl37 : placesOf Tryz.prog 37 = none := by kernel_rfl
@[simp] theorem el37 : elOf Tryz.prog 37 = some (139, true, 4, 64, [Value.int IntKind.i64 0, Value.bool false, Value.slice none 0 0, Value.slice none 0 0]) := by kernel_rfl
@[simp] theorem ty38 : tyOf Tryz.prog 38 = some (true, 4) := by kernel_rfl
@[simp] theorem zav38 : zAV Tryz.prog 38 [Value.slice none 0 0, Value.bool false, Value.slice none 0 0, Value.slice none 0 0] = [.nl 4, .lit (Value.bool false), .nl 1, .nl 1] := by kernel_rfl
@[simp] theorem z38 : zeroOf Tryz.prog 38 = some [Value.slice none 0 0, Value.bool false, Value.slice none 0 0, Value.slice none 0 0] := by kernel_rfl
@[simp] theorem fld38_0 : fldOf Tryz.prog 38 0 = some (0, false, 1) := by kernel_rfl
@[simp] theorem fld38_1 : fldOf Tryz.prog 38 1 = some (1, true, 3) := by kernel_rfl
@[simp] theorem pl38 : placesOf Tryz.prog 38 = some [(0, 1), (1, 3)] := by kernel_rfl
@[simp] theorem ty39 : tyOf Tryz.prog 39 = some (true, 4) := by kernel_rfl
@[simp] theorem zav39 : zAV Tryz.prog 39 [Value.slice none 0 0, Value.bool false, Value.slice none 0 0, Value.slice none 0 0] = [.nl 4, .lit (Value.bool false), .nl 1, .nl 1] := by kernel_rfl
@[simp] theorem z39 : zeroOf Tryz.prog 39 = some [Value.slice none 0 0, Value.bool false, Value.slice none 0 0, Value.slice none 0 0] := by kernel_rfl
@[simp] theorem fld39_0 : fldOf Tryz.prog 39 0 = some (0, false, 1) := by kernel_rfl
@[simp] theorem fld39_1 : fldOf Tryz.prog 39 1 = some (1, true, 3) := by kernel_rfl
@[simp] theorem pl39 : placesOf Tryz.prog 39 = some [(0, 1), (1, 3)] := by kernel_rfl
@[simp] theorem ty40 : tyOf Tryz.prog 40 = some (true, 10) := by kernel_rfl
@[simp] theorem zav40 : zAV Tryz.prog 40 [Value.int IntKind.i64 0, Value.slice none 0 0, Value.slice none 0 0, Value.slice none 0 0, Value.slice none 0 0, Value.slice none 0 0, Value.slice none 0 0, Value.bool false, Value.slice none 0 0, Value.slice none 0 0] = [.lit (Value.int IntKind.i64 0), .nl 4, .nl 4, .nl 3, .nl 3, .nl 4, .nl 4, .lit (Value.bool false), .nl 1, .nl 1] := by kernel_rfl
@[simp] theorem z40 : zeroOf Tryz.prog 40 = some [Value.int IntKind.i64 0, Value.slice none 0 0, Value.slice none 0 0, Value.slice none 0 0, Value.slice none 0 0, Value.slice none 0 0, Value.slice none 0 0, Value.bool false, Value.slice none 0 0, Value.slice none 0 0] := by kernel_rfl
@[simp] theorem fld40_0 : fldOf Tryz.prog 40 0 = some (0, true, 3) := by kernel_rfl
@[simp] theorem fld40_1 : fldOf Tryz.prog 40 1 = some (3, true, 3) := by kernel_rfl
@[simp] theorem fld40_2 : fldOf Tryz.prog 40 2 = some (6, true, 4) := by kernel_rfl
@[simp] theorem pl40 : placesOf Tryz.prog 40 = some [(0, 3), (3, 3), (6, 4)] := by kernel_rfl
@[simp] theorem ty41 : tyOf Tryz.prog 41 = some (true, 10) := by kernel_rfl
@[simp] theorem zav41 : zAV Tryz.prog 41 [Value.int IntKind.i64 0, Value.slice none 0 0, Value.slice none 0 0, Value.slice none 0 0, Value.slice none 0 0, Value.slice none 0 0, Value.slice none 0 0, Value.bool false, Value.slice none 0 0, Value.slice none 0 0] = [.lit (Value.int IntKind.i64 0), .nl 4, .nl 4, .nl 3, .nl 3, .nl 4, .nl 4, .lit (Value.bool false), .nl 1, .nl 1] := by kernel_rfl
@[simp] theorem z41 : zeroOf Tryz.prog 41 = some [Value.int IntKind.i64 0, Value.slice none 0 0, Value.slice none 0 0, Value.slice none 0 0, Value.slice none 0 0, Value.slice none 0 0, Value.slice none 0 0, Value.bool false, Value.slice none 0 0, Value.slice none 0 0] := by kernel_rfl
@[simp] theorem fld41_0 : fldOf Tryz.prog 41 0 = some (0, true, 3) := by kernel_rfl
@[simp] theorem fld41_1 : fldOf Tryz.prog 41 1 = some (3, true, 3) := by kernel_rfl
@[simp] theorem fld41_2 : fldOf Tryz.prog 41 2 = some (6, true, 4) := by kernel_rfl
@[simp] theorem pl41 : placesOf Tryz.prog 41 = some [(0, 3), (3, 3), (6, 4)] := by kernel_rfl
@[simp] theorem ty42 : tyOf Tryz.prog 42 = some (false, 1) := by kernel_rfl
@[simp] theorem pl42 : placesOf Tryz.prog 42 = none := by kernel_rfl
@[simp] theorem ty43 : tyOf Tryz.prog 43 = some (false, 1) := by kernel_rfl
@[simp] theorem pl43 : placesOf Tryz.prog 43 = none := by kernel_rfl
@[simp] theorem ty44 : tyOf Tryz.prog 44 = some (false, 1) := by kernel_rfl
@[simp] theorem pl44 : placesOf Tryz.prog 44 = none := by kernel_rfl
@[simp] theorem ty45 : tyOf Tryz.prog 45 = some (false, 1) := by kernel_rfl
@[simp] theorem pl45 : placesOf Tryz.prog 45 = none := by kernel_rfl
@[simp] theorem ty46 : tyOf Tryz.prog 46 = some (false, 1) := by kernel_rfl
@[simp] theorem pl46 : placesOf Tryz.prog 46 = none := by kernel_rfl
@[simp] theorem ty47 : tyOf Tryz.prog 47 = some (false, 1) := by kernel_rfl
@[simp] theorem pl47 : placesOf Tryz.prog 47 = none := by kernel_rfl
@[simp] theorem ty48 : tyOf Tryz.prog 48 = some (false, 1) := by kernel_rfl
@[simp] theorem zav48 : zAV Tryz.prog 48 [Value.slice none 0 0] = [.nl 6] := by kernel_rfl
@[simp] theorem z48 : zeroOf Tryz.prog 48 = some [Value.slice none 0 0] := by kernel_rfl
@[simp] theorem pl48 : placesOf Tryz.prog 48 = none := by kernel_rfl
@[simp] theorem el48 : elOf Tryz.prog 48 = some (51, true, 6, 96, [Value.int IntKind.i64 0, Value.bool false, Value.bool false, Value.slice none 0 0, Value.slice none 0 0, Value.slice none 0 0]) := by kernel_rfl
@[simp] theorem ty49 : tyOf Tryz.prog 49 = some (false, 1) := by kernel_rfl
@[simp] theorem zav49 : zAV Tryz.prog 49 [Value.slice none 0 0] = [.nl 7] := by kernel_rfl
@[simp] theorem z49 : zeroOf Tryz.prog 49 = some [Value.slice none 0 0] := by kernel_rfl
@[simp] theorem pl49 : placesOf Tryz.prog 49 = none := by kernel_rfl
@[simp] theorem el49 : elOf Tryz.prog 49 = some (198, true, 7, 88, [Value.int IntKind.i64 0, Value.int IntKind.i64 0, Value.int IntKind.i64 0, Value.int IntKind.i64 0, Value.bool false, Value.slice none 0 0, Value.slice none 0 0]) := by kernel_rfl
@[simp] theorem ty50 : tyOf Tryz.prog 50 = some (true, 6) := by kernel_rfl
@[simp] theorem zav50 : zAV Tryz.prog 50 [Value.int IntKind.i64 0, Value.bool false, Value.bool false, Value.slice none 0 0, Value.slice none 0 0, Value.slice none 0 0] = [.lit (Value.int IntKind.i64 0), .lit (Value.bool false), .lit (Value.bool false), .nl 1, .nl 1, .nl 7] := by kernel_rfl
@[simp] theorem z50 : zeroOf Tryz.prog 50 = some [Value.int IntKind.i64 0, Value.bool false, Value.bool false, Value.slice none 0 0, Value.slice none 0 0, Value.slice none 0 0] := by kernel_rfl
@[simp] theorem fld50_0 : fldOf Tryz.prog 50 0 = some (0, false, 1) := by kernel_rfl
@[simp] theorem fld50_1 : fldOf Tryz.prog 50 1 = some (1, false, 1) := by kernel_rfl
@[simp] theorem fld50_2 : fldOf Tryz.prog 50 2 = some (2, true, 3) := by kernel_rfl
@[simp] theorem fld50_3 : fldOf Tryz.prog 50 3 = some (5, false, 1) := by kernel_rfl
@[simp] theorem pl50 : placesOf Tryz.prog 50 = some [(0, 1), (1, 1), (2, 3), (5, 1)] := by kernel_rfl
@[simp] theorem ty51 : tyOf Tryz.prog 51 = some (true, 6) := by kernel_rfl
@[simp] theorem zav51 : zAV Tryz.prog 51 [Value.int IntKind.i64 0, Value.bool false, Value.bool false, Value.slice none 0 0, Value.slice none 0 0, Value.slice none 0 0] = [.lit (Value.int IntKind.i64 0), .lit (Value.bool false), .lit (Value.bool false), .nl 1, .nl 1, .nl 7] := by kernel_rfl
@[simp] theorem z51 : zeroOf Tryz.prog 51 = some [Value.int IntKind.i64 0, Value.bool false, Value.bool false, Value.slice none 0 0, Value.slice none 0 0, Value.slice none 0 0] := by kernel_rfl
@[simp] theorem fld51_0 : fldOf Tryz.prog 51 0 = some (0, false, 1) := by kernel_rfl
@[simp] theorem fld51_1 : fldOf Tryz.prog 51 1 = some (1, false, 1) := by kernel_rfl
@[simp] theorem fld51_2 : fldOf Tryz.prog 51 2 = some (2, true, 3) := by kernel_rfl
@[simp] theorem fld51_3 : fldOf Tryz.prog 51 3 = some (5, false, 1) := by kernel_rfl
@[simp] theorem pl51 : placesOf Tryz.prog 51 = some [(0, 1), (1, 1), (2, 3), (5, 1)] := by kernel_rfl
@[simp] theorem ty52 : tyOf Tryz.prog 52 = some (false, 1) := by kernel_rfl
@[simp] theorem zav52 : zAV Tryz.prog 52 [Value.slice none 0 0] = [.nl 5] := by kernel_rfl
@[simp] theorem z52 : zeroOf Tryz.prog 52 = some [Value.slice none 0 0] := by kernel_rfl
@[simp] theorem pl52 : placesOf Tryz.prog 52 = none := by kernel_rfl
@[simp] theorem el52 : elOf Tryz.prog 52 = some (28, true, 5, 72, [Value.int IntKind.i64 0, Value.int IntKind.i64 0, Value.bool false, Value.slice none 0 0, Value.slice none 0 0]) := by kernel_rfl
@[simp] theorem ty53 : tyOf Tryz.prog 53 = some (true, 12) := by kernel_rfl
@[simp] theorem zav53 : zAV Tryz.prog 53 [Value.int IntKind.i64 0, Value.slice none 0 0, Value.slice none 0 0, Value.slice none 0 0, Value.slice none 0 0, Value.slice none 0 0, Value.slice none 0 0, Value.bool false, Value.slice none 0 0, Value.slice none 0 0, Value.slice none 0 0, Value.slice none 0 0] = [.lit (Value.int IntKind.i64 0), .nl 4, .nl 4, .nl 3, .nl 3, .nl 4, .nl 4, .lit (Value.bool false), .nl 1, .nl 1, .nl 5, .nl 6] := by kernel_rfl
@[simp] theorem z53 : zeroOf Tryz.prog 53 = some [Value.int IntKind.i64 0, Value.slice none 0 0, Value.slice none 0 0, Value.slice none 0 0, Value.slice none 0 0, Value.slice none 0 0, Value.slice none 0 0, Value.bool false, Value.slice none 0 0, Value.slice none 0 0, Value.slice none 0 0, Value.slice none 0 0] := by kernel_rfl
@[simp] theorem fld53_0 : fldOf Tryz.prog 53 0 = some (0, true, 10) := by kernel_rfl
@[simp] theorem fld53_1 : fldOf Tryz.prog 53 1 = some (10, false, 1) := by kernel_rfl
@[simp] theorem fld53_2 : fldOf Tryz.prog 53 2 = some (11, false, 1) := by kernel_rfl
@[simp] theorem pl53 : placesOf Tryz.prog 53 = some [(0, 10), (10, 1), (11, 1)] := by kernel_rfl
@[simp] theorem ty54 : tyOf Tryz.prog 54 = some (true, 12) := by kernel_rfl
@[simp] theorem zav54 : zAV Tryz.prog 54 [Value.int IntKind.i64 0, Value.slice none 0 0, Value.slice none 0 0, Value.slice none 0 0, Value.slice none 0 0, Value.slice none 0 0, Value.slice none 0 0, Value.bool false, Value.slice none 0 0, Value.slice none 0 0, Value.slice none 0 0, Value.slice none 0 0] = [.lit (Value.int IntKind.i64 0), .nl 4, .nl 4, .nl 3, .nl 3, .nl 4, .nl 4, .lit (Value.bool false), .nl 1, .nl 1, .nl 5, .nl 6] := by kernel_rfl
@[simp] theorem z54 : zeroOf Tryz.prog 54 = some [Value.int IntKind.i64 0, Value.slice none 0 0, Value.slice none 0 0, Value.slice none 0 0, Value.slice none 0 0, Value.slice none 0 0, Value.slice none 0 0, Value.bool false, Value.slice none 0 0, Value.slice none 0 0, Value.slice none 0 0, Value.slice none 0 0] := by kernel_rfl
@[simp] theorem fld54_0 : fldOf Tryz.prog 54 0 = some (0, true, 10) := by kernel_rfl
@[simp] theorem fld54_1 : fldOf Tryz.prog 54 1 = some (10, false, 1) := by kernel_rfl
@[simp] theorem fld54_2 : fldOf Tryz.prog 54 2 = some (11, false, 1) := by kernel_rfl
@[simp] theorem pl54 : placesOf Tryz.prog 54 = some [(0, 10), (10, 1), (11, 1)] := by kernel_rfl
@[simp] theorem ty55 : tyOf Tryz.prog 55 = some (false, 1) := by kernel_rfl
@[simp] theorem pl55 : placesOf Tryz.prog 55 = none := by kernel_rfl
@[simp] theorem ty56 : tyOf Tryz.prog 56 = some (false, 1) := by kernel_rfl
@[simp] theorem pl56 : placesOf Tryz.prog 56 = none := by kernel_rfl
@[simp] theorem ty57 : tyOf Tryz.prog 57 = some (false, 1) := by kernel_rfl
@[simp] theorem zav57 : zAV Tryz.prog 57 [Value.slice none 0 0] = [.nl 1] := by kernel_rfl
@[simp] theorem z57 : zeroOf Tryz.prog 57 = some [Value.slice none 0 0] := by kernel_rfl
@[simp] theorem pl57 : placesOf Tryz.prog 57 = none := by kernel_rfl
@[simp] theorem el57 : elOf Tryz.prog 57 = some (3, false, 1, 8, [Value.int IntKind.i64 0]) := by kernel_rfl
@[simp] theorem ty58 : tyOf Tryz.prog 58 = some (false, 1) := by kernel_rfl
@[simp] theorem pl58 : placesOf Tryz.prog 58 = none := by kernel_rfl
@[simp] theorem ty59 : tyOf Tryz.prog 59 = some (false, 1) := by kernel_rfl
@[simp] theorem pl59 : placesOf Tryz.prog 59 = none := by kernel_rfl
@[simp] theorem ty60 : tyOf Tryz.prog 60 = some (false, 1) := by kernel_rfl
@[simp] theorem zav60 : zAV Tryz.prog 60 [Value.int IntKind.i64 0] = [.lit (Value.int IntKind.i64 0)] := by kernel_rfl
@[simp] theorem z60 : zeroOf Tryz.prog 60 = some [Value.int IntKind.i64 0] := by kernel_rfl
@[simp] theorem pl60 : placesOf Tryz.prog 60 = none := by kernel_rfl
@[simp] theorem in60 : intT Tryz.prog 60 = some .i64 := by kernel_rfl
@[simp] theorem un60 : Tryz.prog.underlying 60 = some (.int .i64) := by kernel_rfl
@[simp] theorem ty61 : tyOf Tryz.prog 61 = some (false, 1) := by kernel_rfl
@[simp] theorem zav61 : zAV Tryz.prog 61 [Value.tuple #[Value.agg #[Value.bool false, Value.slice none 0 0, Value.slice none 0 0], Value.int IntKind.i64 0]] = [.lit (Value.tuple #[Value.agg #[Value.bool false, Value.slice none 0 0, Value.slice none 0 0], Value.int IntKind.i64 0])] := by kernel_rfl
@[simp] theorem z61 : zeroOf Tryz.prog 61 = some [Value.tuple #[Value.agg #[Value.bool false, Value.slice none 0 0, Value.slice none 0 0], Value.int IntKind.i64 0]] := by kernel_rfl
@[simp] theorem pl61 : placesOf Tryz.prog 61 = none := by kernel_rfl
@[simp] theorem ty62 : tyOf Tryz.prog 62 = some (false, 1) := by kernel_rfl
@[simp] theorem pl62 : placesOf Tryz.prog 62 = none := by kernel_rfl
@[simp] theorem ty63 : tyOf Tryz.prog 63 = some (false, 1) := by kernel_rfl
@[simp] theorem zav63 : zAV Tryz.prog 63 [Value.tuple #[Value.slice none 0 0, Value.int IntKind.i64 0]] = [.lit (Value.tuple #[Value.slice none 0 0, Value.int IntKind.i64 0])] := by kernel_rfl
@[simp] theorem z63 : zeroOf Tryz.prog 63 = some [Value.tuple #[Value.slice none 0 0, Value.int IntKind.i64 0]] := by kernel_rfl
@[simp] theorem pl63 : placesOf Tryz.prog 63 = none := by kernel_rfl
@[simp] theorem ty64 : tyOf Tryz.prog 64 = some (false, 1) := by kernel_rfl
@[simp] theorem pl64 : placesOf Tryz.prog 64 = none := by kernel_rfl
@[simp] theorem ty65 : tyOf Tryz.prog 65 = some (false, 1) := by kernel_rfl
@[simp] theorem zav65 : zAV Tryz.prog 65 [Value.tuple #[Value.slice none 0 0, Value.int IntKind.i64 0]] = [.lit (Value.tuple #[Value.slice none 0 0, Value.int IntKind.i64 0])] := by kernel_rfl
@[simp] theorem z65 : zeroOf Tryz.prog 65 = some [Value.tuple #[Value.slice none 0 0, Value.int IntKind.i64 0]] := by kernel_rfl
@[simp] theorem pl65 : placesOf Tryz.prog 65 = none := by kernel_rfl
@[simp] theorem ty66 : tyOf Tryz.prog 66 = some (false, 1) := by kernel_rfl
@[simp] theorem pl66 : placesOf Tryz.prog 66 = none := by kernel_rfl
@[simp] theorem ty67 : tyOf Tryz.prog 67 = some (false, 1) := by kernel_rfl
@[simp] theorem pl67 : placesOf Tryz.prog 67 = none := by kernel_rfl
@[simp] theorem ty68 : tyOf Tryz.prog 68 = some (false, 1) := by kernel_rfl
@[simp] theorem pl68 : placesOf Tryz.prog 68 = none := by kernel_rfl
@[simp] theorem ty69 : tyOf Tryz.prog 69 = some (false, 1) := by kernel_rfl
@[simp] theorem zav69 : zAV Tryz.prog 69 [Value.pointer none] = [.lit (Value.pointer none)] := by kernel_rfl
@[simp] theorem z69 : zeroOf Tryz.prog 69 = some [Value.pointer none] := by kernel_rfl
@[simp] theorem pl69 : placesOf Tryz.prog 69 = none := by kernel_rfl
@[simp] theorem ty70 : tyOf Tryz.prog 70 = some (false, 1) := by kernel_rfl
@[simp] theorem pl70 : placesOf Tryz.prog 70 = none := by kernel_rfl
@[simp] theorem ty71 : tyOf Tryz.prog 71 = some (false, 1) := by kernel_rfl
@[simp] theorem pl71 : placesOf Tryz.prog 71 = none := by kernel_rfl
@[simp] theorem ty72 : tyOf Tryz.prog 72 = some (false, 1) := by kernel_rfl
@[simp] theorem pl72 : placesOf Tryz.prog 72 = none := by kernel_rfl
@[simp] theorem ty73 : tyOf Tryz.prog 73 = some (false, 1) := by kernel_rfl
@[simp] theorem pl73 : placesOf Tryz.prog 73 = none := by kernel_rfl
@[simp] theorem ty74 : tyOf Tryz.prog 74 = some (false, 1) := by kernel_rfl
@[simp] theorem zav74 : zAV Tryz.prog 74 [Value.tuple #[Value.slice none 0 0, Value.int IntKind.i64 0]] = [.lit (Value.tuple #[Value.slice none 0 0, Value.int IntKind.i64 0])] := by kernel_rfl
@[simp] theorem z74 : zeroOf Tryz.prog 74 = some [Value.tuple #[Value.slice none 0 0, Value.int IntKind.i64 0]] := by kernel_rfl
@[simp] theorem pl74 : placesOf Tryz.prog 74 = none := by kernel_rfl
@[simp] theorem ty75 : tyOf Tryz.prog 75 = some (false, 1) := by kernel_rfl
@[simp] theorem pl75 : placesOf Tryz.prog 75 = none := by kernel_rfl
@[simp] theorem ty76 : tyOf Tryz.prog 76 = some (false, 1) := by kernel_rfl
@[simp] theorem pl76 : placesOf Tryz.prog 76 = none := by kernel_rfl
@[simp] theorem ty77 : tyOf Tryz.prog 77 = some (true, 5) := by kernel_rfl
@[simp] theorem zav77 : zAV Tryz.prog 77 [Value.int IntKind.i64 0, Value.int IntKind.i64 0, Value.int IntKind.i64 0, Value.int IntKind.i64 0, Value.int IntKind.i64 0] = [.lit (Value.int IntKind.i64 0), .lit (Value.int IntKind.i64 0), .lit (Value.int IntKind.i64 0), .lit (Value.int IntKind.i64 0), .lit (Value.int IntKind.i64 0)] := by kernel_rfl
@[simp] theorem z77 : zeroOf Tryz.prog 77 = some [Value.int IntKind.i64 0, Value.int IntKind.i64 0, Value.int IntKind.i64 0, Value.int IntKind.i64 0, Value.int IntKind.i64 0] := by kernel_rfl
@[simp] theorem pl77 : placesOf Tryz.prog 77 = none := by kernel_rfl
@[simp] theorem ar77 : arOf Tryz.prog 77 = some (5, false, 1) := by kernel_rfl
@[simp] theorem nel77 : elOf Tryz.prog 77 = none := by kernel_rfl
@[simp] theorem ty78 : tyOf Tryz.prog 78 = some (false, 1) := by kernel_rfl
@[simp] theorem pl78 : placesOf Tryz.prog 78 = none := by kernel_rfl
@[simp] theorem ty79 : tyOf Tryz.prog 79 = some (false, 1) := by kernel_rfl
@[simp] theorem pl79 : placesOf Tryz.prog 79 = none := by kernel_rfl
@[simp] theorem ty80 : tyOf Tryz.prog 80 = some (false, 1) := by kernel_rfl
@[simp] theorem pl80 : placesOf Tryz.prog 80 = none := by kernel_rfl
@[simp] theorem ty81 : tyOf Tryz.prog 81 = some (false, 1) := by kernel_rfl
@[simp] theorem pl81 : placesOf Tryz.prog 81 = none := by kernel_rfl
@[simp] theorem ty82 : tyOf Tryz.prog 82 = some (false, 1) := by kernel_rfl
@[simp] theorem pl82 : placesOf Tryz.prog 82 = none := by kernel_rfl
@[simp] theorem ty83 : tyOf Tryz.prog 83 = some (true, 2) := by kernel_rfl
@[simp] theorem zav83 : zAV Tryz.prog 83 [Value.bool false, Value.slice none 0 0] = [.lit (Value.bool false), .nl 1] := by kernel_rfl
@[simp] theorem z83 : zeroOf Tryz.prog 83 = some [Value.bool false, Value.slice none 0 0] := by kernel_rfl
@[simp] theorem fld83_0 : fldOf Tryz.prog 83 0 = some (0, false, 1) := by kernel_rfl
@[simp] theorem fld83_1 : fldOf Tryz.prog 83 1 = some (1, false, 1) := by kernel_rfl
@[simp] theorem pl83 : placesOf Tryz.prog 83 = some [(0, 1), (1, 1)] := by kernel_rfl
@[simp] theorem ty84 : tyOf Tryz.prog 84 = some (true, 2) := by kernel_rfl
@[simp] theorem zav84 : zAV Tryz.prog 84 [Value.bool false, Value.slice none 0 0] = [.lit (Value.bool false), .nl 1] := by kernel_rfl
@[simp] theorem z84 : zeroOf Tryz.prog 84 = some [Value.bool false, Value.slice none 0 0] := by kernel_rfl
@[simp] theorem fld84_0 : fldOf Tryz.prog 84 0 = some (0, false, 1) := by kernel_rfl
@[simp] theorem fld84_1 : fldOf Tryz.prog 84 1 = some (1, false, 1) := by kernel_rfl
@[simp] theorem pl84 : placesOf Tryz.prog 84 = some [(0, 1), (1, 1)] := by kernel_rfl
@[simp] theorem ty85 : tyOf Tryz.prog 85 = some (false, 1) := by kernel_rfl
@[simp] theorem pl85 : placesOf Tryz.prog 85 = none := by kernel_rfl
@[simp] theorem ty86 : tyOf Tryz.prog 86 = some (false, 1) := by kernel_rfl
@[simp] theorem pl86 : placesOf Tryz.prog 86 = none := by kernel_rfl
@[simp] theorem ty87 : tyOf Tryz.prog 87 = some (false, 1) := by kernel_rfl
@[simp] theorem pl87 : placesOf Tryz.prog 87 = none := by kernel_rfl
@[simp] theorem ty88 : tyOf Tryz.prog 88 = some (true, 2) := by kernel_rfl
@[simp] theorem zav88 : zAV Tryz.prog 88 [Value.int IntKind.i64 0, Value.bool false] = [.lit (Value.int IntKind.i64 0), .lit (Value.bool false)] := by kernel_rfl
@[simp] theorem z88 : zeroOf Tryz.prog 88 = some [Value.int IntKind.i64 0, Value.bool false] := by kernel_rfl
@[simp] theorem fld88_0 : fldOf Tryz.prog 88 0 = some (0, false, 1) := by kernel_rfl
@[simp] theorem fld88_1 : fldOf Tryz.prog 88 1 = some (1, false, 1) := by kernel_rfl
@[simp] theorem pl88 : placesOf Tryz.prog 88 = some [(0, 1), (1, 1)] := by kernel_rfl
@[simp] theorem ty89 : tyOf Tryz.prog 89 = some (true, 2) := by kernel_rfl
@[simp] theorem zav89 : zAV Tryz.prog 89 [Value.int IntKind.i64 0, Value.bool false] = [.lit (Value.int IntKind.i64 0), .lit (Value.bool false)] := by kernel_rfl
@[simp] theorem z89 : zeroOf Tryz.prog 89 = some [Value.int IntKind.i64 0, Value.bool false] := by kernel_rfl
@[simp] theorem fld89_0 : fldOf Tryz.prog 89 0 = some (0, false, 1) := by kernel_rfl
@[simp] theorem fld89_1 : fldOf Tryz.prog 89 1 = some (1, false, 1) := by kernel_rfl
@[simp] theorem pl89 : placesOf Tryz.prog 89 = some [(0, 1), (1, 1)] := by kernel_rfl
@[simp] theorem ty90 : tyOf Tryz.prog 90 = some (false, 1) := by kernel_rfl
@[simp] theorem zav90 : zAV Tryz.prog 90 [Value.tuple #[Value.agg #[Value.int IntKind.i64 0, Value.bool false], Value.bool false]] = [.lit (Value.tuple #[Value.agg #[Value.int IntKind.i64 0, Value.bool false], Value.bool false])] := by kernel_rfl
@[simp] theorem z90 : zeroOf Tryz.prog 90 = some [Value.tuple #[Value.agg #[Value.int IntKind.i64 0, Value.bool false], Value.bool false]] := by kernel_rfl
@[simp] theorem pl90 : placesOf Tryz.prog 90 = none := by kernel_rfl
@[simp] theorem ty91 : tyOf Tryz.prog 91 = some (false, 1) := by kernel_rfl
@[simp] theorem pl91 : placesOf Tryz.prog 91 = none := by kernel_rfl
@[simp] theorem ty92 : tyOf Tryz.prog 92 = some (false, 1) := by kernel_rfl
@[simp] theorem pl92 : placesOf Tryz.prog 92 = none := by kernel_rfl
@[simp] theorem ty93 : tyOf Tryz.prog 93 = some (false, 1) := by kernel_rfl
@[simp] theorem pl93 : placesOf Tryz.prog 93 = none := by kernel_rfl
@[simp] theorem ty94 : tyOf Tryz.prog 94 = some (false, 1) := by kernel_rfl
@[simp] theorem pl94 : placesOf Tryz.prog 94 = none := by kernel_rfl
@[simp] theorem ty95 : tyOf Tryz.prog 95 = some (false, 1) := by kernel_rfl
@[simp] theorem pl95 : placesOf Tryz.prog 95 = none := by kernel_rfl
@[simp] theorem ty96 : tyOf Tryz.prog 96 = some (false, 1) := by kernel_rfl
@[simp] theorem pl96 : placesOf Tryz.prog 96 = none := by kernel_rfl
@[simp] theorem ty97 : tyOf Tryz.prog 97 = some (false, 1) := by kernel_rfl
@[simp] theorem pl97 : placesOf Tryz.prog 97 = none := by kernel_rfl
@[simp] theorem ty98 : tyOf Tryz.prog 98 = some (false, 1) := by kernel_rfl
@[simp] theorem pl98 : placesOf Tryz.prog 98 = none := by kernel_rfl
@[simp] theorem ty99 : tyOf Tryz.prog 99 = some (true, 2) := by kernel_rfl
@[simp] theorem zav99 : zAV Tryz.prog 99 [Value.slice none 0 0, Value.int IntKind.i64 0] = [.nl 1, .lit (Value.int IntKind.i64 0)] := by kernel_rfl
@[simp] theorem z99 : zeroOf Tryz.prog 99 = some [Value.slice none 0 0, Value.int IntKind.i64 0] := by kernel_rfl
@[simp] theorem fld99_0 : fldOf Tryz.prog 99 0 = some (0, false, 1) := by kernel_rfl
@[simp] theorem fld99_1 : fldOf Tryz.prog 99 1 = some (1, false, 1) := by kernel_rfl
@[simp] theorem pl99 : placesOf Tryz.prog 99 = some [(0, 1), (1, 1)] := by kernel_rfl
@[simp] theorem ty100 : tyOf Tryz.prog 100 = some (true, 2) := by kernel_rfl
@[simp] theorem zav100 : zAV Tryz.prog 100 [Value.slice none 0 0, Value.int IntKind.i64 0] = [.nl 1, .lit (Value.int IntKind.i64 0)] := by kernel_rfl
@[simp] theorem z100 : zeroOf Tryz.prog 100 = some [Value.slice none 0 0, Value.int IntKind.i64 0] := by kernel_rfl
@[simp] theorem fld100_0 : fldOf Tryz.prog 100 0 = some (0, false, 1) := by kernel_rfl
@[simp] theorem fld100_1 : fldOf Tryz.prog 100 1 = some (1, false, 1) := by kernel_rfl
@[simp] theorem pl100 : placesOf Tryz.prog 100 = some [(0, 1), (1, 1)] := by kernel_rfl
@[simp] theorem ty101 : tyOf Tryz.prog 101 = some (false, 1) := by kernel_rfl
@[simp] theorem pl101 : placesOf Tryz.prog 101 = none := by kernel_rfl
@[simp] theorem ty102 : tyOf Tryz.prog 102 = some (false, 1) := by kernel_rfl
@[simp] theorem pl102 : placesOf Tryz.prog 102 = none := by kernel_rfl
@[simp] theorem ty103 : tyOf Tryz.prog 103 = some (false, 1) := by kernel_rfl
@[simp] theorem pl103 : placesOf Tryz.prog 103 = none := by kernel_rfl
@[simp] theorem ty104 : tyOf Tryz.prog 104 = some (false, 1) := by kernel_rfl
@[simp] theorem pl104 : placesOf Tryz.prog 104 = none := by kernel_rfl
@[simp] theorem ty105 : tyOf Tryz.prog 105 = some (false, 1) := by kernel_rfl
@[simp] theorem pl105 : placesOf Tryz.prog 105 = none := by kernel_rfl
@[simp] theorem ty106 : tyOf Tryz.prog 106 = some (false, 1) := by kernel_rfl
@[simp] theorem pl106 : placesOf Tryz.prog 106 = none := by kernel_rfl
@[simp] theorem ty107 : tyOf Tryz.prog 107 = some (false, 1) := by kernel_rfl
@[simp] theorem pl107 : placesOf Tryz.prog 107 = none := by kernel_rfl
@[simp] theorem ty108 : tyOf Tryz.prog 108 = some (false, 1) := by kernel_rfl
@[simp] theorem pl108 : placesOf Tryz.prog 108 = none := by kernel_rfl
@[simp] theorem ty109 : tyOf Tryz.prog 109 = some (false, 1) := by kernel_rfl
@[simp] theorem pl109 : placesOf Tryz.prog 109 = none := by kernel_rfl
@[simp] theorem ty110 : tyOf Tryz.prog 110 = some (false, 1) := by kernel_rfl
@[simp] theorem pl110 : placesOf Tryz.prog 110 = none := by kernel_rfl
@[simp] theorem ty111 : tyOf Tryz.prog 111 = some (false, 1) := by kernel_rfl
@[simp] theorem pl111 : placesOf Tryz.prog 111 = none := by kernel_rfl
@[simp] theorem ty112 : tyOf Tryz.prog 112 = some (false, 1) := by kernel_rfl
@[simp] theorem pl112 : placesOf Tryz.prog 112 = none := by kernel_rfl
@[simp] theorem ty113 : tyOf Tryz.prog 113 = some (false, 1) := by kernel_rfl
@[simp] theorem pl113 : placesOf Tryz.prog 113 = none := by kernel_rfl
@[simp] theorem ty114 : tyOf Tryz.prog 114 = some (true, 4) := by kernel_rfl
@[simp] theorem zav114 : zAV Tryz.prog 114 [Value.int IntKind.i64 0, Value.int IntKind.i64 0, Value.int IntKind.i64 0, Value.int IntKind.i64 0] = [.lit (Value.int IntKind.i64 0), .lit (Value.int IntKind.i64 0), .lit (Value.int IntKind.i64 0), .lit (Value.int IntKind.i64 0)] := by kernel_rfl
@[simp] theorem z114 : zeroOf Tryz.prog 114 = some [Value.int IntKind.i64 0, Value.int IntKind.i64 0, Value.int IntKind.i64 0, Value.int IntKind.i64 0] := by kernel_rfl
@[simp] theorem pl114 : placesOf Tryz.prog 114 = none := by kernel_rfl
@[simp] theorem ar114 : arOf Tryz.prog 114 = some (4, false, 1) := by kernel_rfl
@[simp] theorem nel114 : elOf Tryz.prog 114 = none := by kernel_rfl
@[simp] theorem ty115 : tyOf Tryz.prog 115 = some (false, 1) := by kernel_rfl
@[simp] theorem zav115 : zAV Tryz.prog 115 [Value.tuple #[Value.int IntKind.i64 0, Value.int IntKind.i64 0]] = [.lit (Value.tuple #[Value.int IntKind.i64 0, Value.int IntKind.i64 0])] := by kernel_rfl
@[simp] theorem z115 : zeroOf Tryz.prog 115 = some [Value.tuple #[Value.int IntKind.i64 0, Value.int IntKind.i64 0]] := by kernel_rfl
@[simp] theorem pl115 : placesOf Tryz.prog 115 = none := by kernel_rfl
@[simp] theorem ty116 : tyOf Tryz.prog 116 = some (false, 1) := by kernel_rfl
@[simp] theorem pl116 : placesOf Tryz.prog 116 = none := by kernel_rfl
@[simp] theorem ty117 : tyOf Tryz.prog 117 = some (false, 1) := by kernel_rfl
@[simp] theorem zav117 : zAV Tryz.prog 117 [Value.tuple #[Value.bool false, Value.bool false]] = [.lit (Value.tuple #[Value.bool false, Value.bool false])] := by kernel_rfl
@[simp] theorem z117 : zeroOf Tryz.prog 117 = some [Value.tuple #[Value.bool false, Value.bool false]] := by kernel_rfl
@[simp] theorem pl117 : placesOf Tryz.prog 117 = none := by kernel_rfl
@[simp] theorem ty118 : tyOf Tryz.prog 118 = some (false, 1) := by kernel_rfl
@[simp] theorem pl118 : placesOf Tryz.prog 118 = none := by kernel_rfl
@[simp] theorem ty119 : tyOf Tryz.prog 119 = some (false, 1) := by kernel_rfl
@[simp] theorem pl119 : placesOf Tryz.prog 119 = none := by kernel_rfl
@[simp] theorem ty120 : tyOf Tryz.prog 120 = some (false, 1) := by kernel_rfl
@[simp] theorem pl120 : placesOf Tryz.prog 120 = none := by kernel_rfl
@[simp] theorem ty121 : tyOf Tryz.prog 121 = some (false, 1) := by kernel_rfl
@[simp] theorem pl121 : placesOf Tryz.prog 121 = none := by kernel_rfl
@[simp] theorem ty122 : tyOf Tryz.prog 122 = some (false, 1) := by kernel_rfl
@[simp] theorem zav122 : zAV Tryz.prog 122 [Value.int IntKind.u64 0] = [.lit (Value.int IntKind.u64 0)] := by kernel_rfl
@[simp] theorem z122 : zeroOf Tryz.prog 122 = some [Value.int IntKind.u64 0] := by kernel_rfl
@[simp] theorem pl122 : placesOf Tryz.prog 122 = none := by kernel_rfl
@[simp] theorem in122 : intT Tryz.prog 122 = some .u64 := by kernel_rfl
@[simp] theorem un122 : Tryz.prog.underlying 122 = some (.int .u64) := by kernel_rfl
@[simp] theorem ty123 : tyOf Tryz.prog 123 = some (false, 1) := by kernel_rfl
@[simp] theorem zav123 : zAV Tryz.prog 123 [Value.map none] = [.lit (Value.map none)] := by kernel_rfl
@[simp] theorem z123 : zeroOf Tryz.prog 123 = some [Value.map none] := by kernel_rfl
@[simp] theorem pl123 : placesOf Tryz.prog 123 = none := by kernel_rfl
@[simp] theorem ty124 : tyOf Tryz.prog 124 = some (false, 1) := by kernel_rfl
@[simp] theorem pl124 : placesOf Tryz.prog 124 = none := by kernel_rfl
@[simp] theorem ty125 : tyOf Tryz.prog 125 = some (false, 1) := by kernel_rfl
@[simp] theorem pl125 : placesOf Tryz.prog 125 = none := by kernel_rfl
@[simp] theorem ty126 : tyOf Tryz.prog 126 = some (false, 1) := by kernel_rfl
@[simp] theorem pl126 : placesOf Tryz.prog 126 = none := by kernel_rfl
@[simp] theorem ty127 : tyOf Tryz.prog 127 = some (false, 1) := by kernel_rfl
@[simp] theorem pl127 : placesOf Tryz.prog 127 = none := by kernel_rfl
@[simp] theorem ty128 : tyOf Tryz.prog 128 = some (false, 1) := by kernel_rfl
@[simp] theorem zav128 : zAV Tryz.prog 128 [Value.int IntKind.u32 0] = [.lit (Value.int IntKind.u32 0)] := by kernel_rfl
@[simp] theorem z128 : zeroOf Tryz.prog 128 = some [Value.int IntKind.u32 0] := by kernel_rfl
@[simp] theorem pl128 : placesOf Tryz.prog 128 = none := by kernel_rfl
@[simp] theorem in128 : intT Tryz.prog 128 = some .u32 := by kernel_rfl
@[simp] theorem un128 : Tryz.prog.underlying 128 = some (.int .u32) := by kernel_rfl
@[simp] theorem ty129 : tyOf Tryz.prog 129 = some (false, 1) := by kernel_rfl
@[simp] theorem pl129 : placesOf Tryz.prog 129 = none := by kernel_rfl
@[simp] theorem ty130 : tyOf Tryz.prog 130 = some (false, 1) := by kernel_rfl
@[simp] theorem zav130 : zAV Tryz.prog 130 [Value.int IntKind.u64 0] = [.lit (Value.int IntKind.u64 0)] := by kernel_rfl
@[simp] theorem z130 : zeroOf Tryz.prog 130 = some [Value.int IntKind.u64 0] := by kernel_rfl
@[simp] theorem pl130 : placesOf Tryz.prog 130 = none := by kernel_rfl
@[simp] theorem in130 : intT Tryz.prog 130 = some .u64 := by kernel_rfl
@[simp] theorem un130 : Tryz.prog.underlying 130 = some (.int .u64) := by kernel_rfl
@[simp] theorem ty131 : tyOf Tryz.prog 131 = some (false, 1) := by kernel_rfl
@[simp] theorem pl131 : placesOf Tryz.prog 131 = none := by kernel_rfl
@[simp] theorem ty132 : tyOf Tryz.prog 132 = some (false, 1) := by kernel_rfl
@[simp] theorem zav132 : zAV Tryz.prog 132 [Value.tuple #[Value.slice none 0 0, Value.int IntKind.i64 0]] = [.lit (Value.tuple #[Value.slice none 0 0, Value.int IntKind.i64 0])] := by kernel_rfl
@[simp] theorem z132 : zeroOf Tryz.prog 132 = some [Value.tuple #[Value.slice none 0 0, Value.int IntKind.i64 0]] := by kernel_rfl
@[simp] theorem pl132 : placesOf Tryz.prog 132 = none := by kernel_rfl
@[simp] theorem ty133 : tyOf Tryz.prog 133 = some (false, 1) := by kernel_rfl
@[simp] theorem pl133 : placesOf Tryz.prog 133 = none := by kernel_rfl
@[simp] theorem ty134 : tyOf Tryz.prog 134 = some (false, 1) := by kernel_rfl
@[simp] theorem zav134 : zAV Tryz.prog 134 [Value.tuple #[Value.slice none 0 0, Value.slice none 0 0, Value.int IntKind.i64 0]] = [.lit (Value.tuple #[Value.slice none 0 0, Value.slice none 0 0, Value.int IntKind.i64 0])] := by kernel_rfl
@[simp] theorem z134 : zeroOf Tryz.prog 134 = some [Value.tuple #[Value.slice none 0 0, Value.slice none 0 0, Value.int IntKind.i64 0]] := by kernel_rfl
@[simp] theorem pl134 : placesOf Tryz.prog 134 = none := by kernel_rfl
@[simp] theorem ty135 : tyOf Tryz.prog 135 = some (false, 1) := by kernel_rfl
@[simp] theorem pl135 : placesOf Tryz.prog 135 = none := by kernel_rfl
@[simp] theorem ty136 : tyOf Tryz.prog 136 = some (false, 1) := by kernel_rfl
@[simp] theorem pl136 : placesOf Tryz.prog 136 = none := by kernel_rfl
@[simp] theorem ty137 : tyOf Tryz.prog 137 = some (false, 1) := by kernel_rfl
@[simp] theorem pl137 : placesOf Tryz.prog 137 = none := by kernel_rfl
@[simp] theorem ty138 : tyOf Tryz.prog 138 = some (true, 4) := by kernel_rfl
@[simp] theorem zav138 : zAV Tryz.prog 138 [Value.int IntKind.i64 0, Value.bool false, Value.slice none 0 0, Value.slice none 0 0] = [.lit (Value.int IntKind.i64 0), .lit (Value.bool false), .nl 1, .nl 1] := by kernel_rfl
@[simp] theorem z138 : zeroOf Tryz.prog 138 = some [Value.int IntKind.i64 0, Value.bool false, Value.slice none 0 0, Value.slice none 0 0] := by kernel_rfl
@[simp] theorem fld138_0 : fldOf Tryz.prog 138 0 = some (0, false, 1) := by kernel_rfl
@[simp] theorem fld138_1 : fldOf Tryz.prog 138 1 = some (1, true, 3) := by kernel_rfl
@[simp] theorem pl138 : placesOf Tryz.prog 138 = some [(0, 1), (1, 3)] := by kernel_rfl
@[simp] theorem ty139 : tyOf Tryz.prog 139 = some (true, 4) := by kernel_rfl
@[simp] theorem zav139 : zAV Tryz.prog 139 [Value.int IntKind.i64 0, Value.bool false, Value.slice none 0 0, Value.slice none 0 0] = [.lit (Value.int IntKind.i64 0), .lit (Value.bool false), .nl 1, .nl 1] := by kernel_rfl
@[simp] theorem z139 : zeroOf Tryz.prog 139 = some [Value.int IntKind.i64 0, Value.bool false, Value.slice none 0 0, Value.slice none 0 0] := by kernel_rfl
@[simp] theorem fld139_0 : fldOf Tryz.prog 139 0 = some (0, false, 1) := by kernel_rfl
@[simp] theorem fld139_1 : fldOf Tryz.prog 139 1 = some (1, true, 3) := by kernel_rfl
@[simp] theorem pl139 : placesOf Tryz.prog 139 = some [(0, 1), (1, 3)] := by kernel_rfl
@[simp] theorem ty140 : tyOf Tryz.prog 140 = some (false, 1) := by kernel_rfl
@[simp] theorem pl140 : placesOf Tryz.prog 140 = none := by kernel_rfl
@[simp] theorem ty141 : tyOf Tryz.prog 141 = some (false, 1) := by kernel_rfl
@[simp] theorem pl141 : placesOf Tryz.prog 141 = none := by kernel_rfl
@[simp] theorem ty142 : tyOf Tryz.prog 142 = some (false, 1) := by kernel_rfl
@[simp] theorem pl142 : placesOf Tryz.prog 142 = none := by kernel_rfl
@[simp] theorem ty143 : tyOf Tryz.prog 143 = some (false, 1) := by kernel_rfl
@[simp] theorem pl143 : placesOf Tryz.prog 143 = none := by kernel_rfl
@[simp] theorem ty144 : tyOf Tryz.prog 144 = some (false, 1) := by kernel_rfl
@[simp] theorem pl144 : placesOf Tryz.prog 144 = none := by kernel_rfl
@[simp] theorem ty145 : tyOf Tryz.prog 145 = some (false, 1) := by kernel_rfl
@[simp] theorem pl145 : placesOf Tryz.prog 145 = none := by kernel_rfl
@[simp] theorem ty146 : tyOf Tryz.prog 146 = some (false, 1) := by kernel_rfl
@[simp] theorem pl146 : placesOf Tryz.prog 146 = none := by kernel_rfl
@[simp] theorem ty147 : tyOf Tryz.prog 147 = some (false, 1) := by kernel_rfl
@[simp] theorem pl147 : placesOf Tryz.prog 147 = none := by kernel_rfl
@[simp] theorem ty148 : tyOf Tryz.prog 148 = some (false, 1) := by kernel_rfl
@[simp] theorem zav148 : zAV Tryz.prog 148 [Value.tuple #[Value.int IntKind.u64 0, Value.bool false]] = [.lit (Value.tuple #[Value.int IntKind.u64 0, Value.bool false])] := by kernel_rfl
@[simp] theorem z148 : zeroOf Tryz.prog 148 = some [Value.tuple #[Value.int IntKind.u64 0, Value.bool false]] := by kernel_rfl
@[simp] theorem pl148 : placesOf Tryz.prog 148 = none := by kernel_rfl
@[simp] theorem ty149 : tyOf Tryz.prog 149 = some (false, 1) := by kernel_rfl
@[simp] theorem pl149 : placesOf Tryz.prog 149 = none := by kernel_rfl
@[simp] theorem ty150 : tyOf Tryz.prog 150 = some (false, 1) := by kernel_rfl
@[simp] theorem pl150 : placesOf Tryz.prog 150 = none := by kernel_rfl
@[simp] theorem ty151 : tyOf Tryz.prog 151 = some (false, 1) := by kernel_rfl
@[simp] theorem pl151 : placesOf Tryz.prog 151 = none := by kernel_rfl
@[simp] theorem ty152 : tyOf Tryz.prog 152 = some (false, 1) := by kernel_rfl
@[simp] theorem pl152 : placesOf Tryz.prog 152 = none := by kernel_rfl
@[simp] theorem ty153 : tyOf Tryz.prog 153 = some (false, 1) := by kernel_rfl
@[simp] theorem pl153 : placesOf Tryz.prog 153 = none := by kernel_rfl
@[simp] theorem ty154 : tyOf Tryz.prog 154 = some (false, 1) := by kernel_rfl
@[simp] theorem pl154 : placesOf Tryz.prog 154 = none := by kernel_rfl
@[simp] theorem ty155 : tyOf Tryz.prog 155 = some (false, 1) := by kernel_rfl
@[simp] theorem zav155 : zAV Tryz.prog 155 [Value.tuple #[Value.agg #[Value.bool false, Value.slice none 0 0], Value.agg #[Value.bool false, Value.slice none 0 0]]] = [.lit (Value.tuple #[Value.agg #[Value.bool false, Value.slice none 0 0], Value.agg #[Value.bool false, Value.slice none 0 0]])] := by kernel_rfl
@[simp] theorem z155 : zeroOf Tryz.prog 155 = some [Value.tuple #[Value.agg #[Value.bool false, Value.slice none 0 0], Value.agg #[Value.bool false, Value.slice none 0 0]]] := by kernel_rfl
@[simp] theorem pl155 : placesOf Tryz.prog 155 = none := by kernel_rfl
@[simp] theorem ty156 : tyOf Tryz.prog 156 = some (false, 1) := by kernel_rfl
@[simp] theorem pl156 : placesOf Tryz.prog 156 = none := by kernel_rfl
@[simp] theorem ty157 : tyOf Tryz.prog 157 = some (false, 1) := by kernel_rfl
@[simp] theorem pl157 : placesOf Tryz.prog 157 = none := by kernel_rfl
@[simp] theorem ty158 : tyOf Tryz.prog 158 = some (false, 1) := by kernel_rfl
@[simp] theorem pl158 : placesOf Tryz.prog 158 = none := by kernel_rfl
@[simp] theorem ty159 : tyOf Tryz.prog 159 = some (false, 1) := by kernel_rfl
@[simp] theorem pl159 : placesOf Tryz.prog 159 = none := by kernel_rfl
@[simp] theorem ty160 : tyOf Tryz.prog 160 = some (false, 1) := by kernel_rfl
@[simp] theorem pl160 : placesOf Tryz.prog 160 = none := by kernel_rfl
@[simp] theorem ty161 : tyOf Tryz.prog 161 = some (true, 24) := by kernel_rfl
@[simp] theorem zav161 : zAV Tryz.prog 161 [Value.int IntKind.u8 0, Value.int IntKind.u8 0, Value.int IntKind.u8 0, Value.int IntKind.u8 0, Value.int IntKind.u8 0, Value.int IntKind.u8 0, Value.int IntKind.u8 0, Value.int IntKind.u8 0, Value.int IntKind.u8 0, Value.int IntKind.u8 0, Value.int IntKind.u8 0, Value.int IntKind.u8 0, Value.int IntKind.u8 0, Value.int IntKind.u8 0, Value.int IntKind.u8 0, Value.int IntKind.u8 0, Value.int IntKind.u8 0, Value.int IntKind.u8 0, Value.int IntKind.u8 0, Value.int IntKind.u8 0, Value.int IntKind.u8 0, Value.int IntKind.u8 0, Value.int IntKind.u8 0, Value.int IntKind.u8 0] = [.lit (Value.int IntKind.u8 0), .lit (Value.int IntKind.u8 0), .lit (Value.int IntKind.u8 0), .lit (Value.int IntKind.u8 0), .lit (Value.int IntKind.u8 0), .lit (Value.int IntKind.u8 0), .lit (Value.int IntKind.u8 0), .lit (Value.int IntKind.u8 0), .lit (Value.int IntKind.u8 0), .lit (Value.int IntKind.u8 0), .lit (Value.int IntKind.u8 0), .lit (Value.int IntKind.u8 0), .lit (Value.int IntKind.u8 0), .lit (Value.int IntKind.u8 0), .lit (Value.int IntKind.u8 0), .lit (Value.int IntKind.u8 0), .lit (Value.int IntKind.u8 0), .lit (Value.int IntKind.u8 0), .lit (Value.int IntKind.u8 0), .lit (Value.int IntKind.u8 0), .lit (Value.int IntKind.u8 0), .lit (Value.int IntKind.u8 0), .lit (Value.int IntKind.u8 0), .lit (Value.int IntKind.u8 0)] := by kernel_rfl
@[simp] theorem z161 : zeroOf Tryz.prog 161 = some [Value.int IntKind.u8 0, Value.int IntKind.u8 0, Value.int IntKind.u8 0, Value.int IntKind.u8 0, Value.int IntKind.u8 0, Value.int IntKind.u8 0, Value.int IntKind.u8 0, Value.int IntKind.u8 0, Value.int IntKind.u8 0, Value.int IntKind.u8 0, Value.int IntKind.u8 0, Value.int IntKind.u8 0, Value.int IntKind.u8 0, Value.int IntKind.u8 0, Value.int IntKind.u8 0, Value.int IntKind.u8 0, Value.int IntKind.u8 0, Value.int IntKind.u8 0, Value.int IntKind.u8 0, Value.int IntKind.u8 0, Value.int IntKind.u8 0, Value.int IntKind.u8 0, Value.int IntKind.u8 0, Value.int IntKind.u8 0] := by kernel_rfl
@[simp] theorem pl161 : placesOf Tryz.prog 161 = none := by kernel_rfl
@[simp] theorem ar161 : arOf Tryz.prog 161 = some (24, false, 1) := by kernel_rfl
@[simp] theorem nel161 : elOf Tryz.prog 161 = none := by kernel_rfl
@[simp] theorem ty162 : tyOf Tryz.prog 162 = some (false, 1) := by kernel_rfl
@[simp] theorem pl162 : placesOf Tryz.prog 162 = none := by kernel_rfl
@[simp] theorem ty163 : tyOf Tryz.prog 163 = some (false, 1) := by kernel_rfl
@[simp] theorem pl163 : placesOf Tryz.prog 163 = none := by kernel_rfl
@[simp] theorem ty164 : tyOf Tryz.prog 164 = some (false, 1) := by kernel_rfl
@[simp] theorem zav164 : zAV Tryz.prog 164 [Value.tuple #[Value.slice none 0 0, Value.string { data := #[] }]] = [.lit (Value.tuple #[Value.slice none 0 0, Value.string { data := #[] }])] := by kernel_rfl
@[simp] theorem z164 : zeroOf Tryz.prog 164 = some [Value.tuple #[Value.slice none 0 0, Value.string { data := #[] }]] := by kernel_rfl
@[simp] theorem pl164 : placesOf Tryz.prog 164 = none := by kernel_rfl
@[simp] theorem ty165 : tyOf Tryz.prog 165 = some (false, 1) := by kernel_rfl
@[simp] theorem pl165 : placesOf Tryz.prog 165 = none := by kernel_rfl
@[simp] theorem ty166 : tyOf Tryz.prog 166 = some (false, 1) := by kernel_rfl
@[simp] theorem pl166 : placesOf Tryz.prog 166 = none := by kernel_rfl
@[simp] theorem ty167 : tyOf Tryz.prog 167 = some (false, 1) := by kernel_rfl
@[simp] theorem zav167 : zAV Tryz.prog 167 [Value.tuple #[Value.slice none 0 0, Value.slice none 0 0]] = [.lit (Value.tuple #[Value.slice none 0 0, Value.slice none 0 0])] := by kernel_rfl
@[simp] theorem z167 : zeroOf Tryz.prog 167 = some [Value.tuple #[Value.slice none 0 0, Value.slice none 0 0]] := by kernel_rfl
@[simp] theorem pl167 : placesOf Tryz.prog 167 = none := by kernel_rfl
@[simp] theorem ty168 : tyOf Tryz.prog 168 = some (false, 1) := by kernel_rfl
@[simp] theorem pl168 : placesOf Tryz.prog 168 = none := by kernel_rfl
@[simp] theorem ty169 : tyOf Tryz.prog 169 = some (false, 1) := by kernel_rfl
@[simp] theorem pl169 : placesOf Tryz.prog 169 = none := by kernel_rfl
@[simp] theorem ty170 : tyOf Tryz.prog 170 = some (false, 1) := by kernel_rfl
@[simp] theorem pl170 : placesOf Tryz.prog 170 = none := by kernel_rfl
@[simp] theorem ty171 : tyOf Tryz.prog 171 = some (false, 1) := by kernel_rfl
@[simp] theorem pl171 : placesOf Tryz.prog 171 = none := by kernel_rfl
@[simp] theorem ty172 : tyOf Tryz.prog 172 = some (false, 1) := by kernel_rfl
@[simp] theorem pl172 : placesOf Tryz.prog 172 = none := by kernel_rfl
@[simp] theorem ty173 : tyOf Tryz.prog 173 = some (false, 1) := by kernel_rfl
@[simp] theorem pl173 : placesOf Tryz.prog 173 = none := by kernel_rfl
@[simp] theorem ty174 : tyOf Tryz.prog 174 = some (true, 20) := by kernel_rfl
@[simp] theorem zav174 : zAV Tryz.prog 174 [Value.int IntKind.u64 0, Value.int IntKind.u64 0, Value.int IntKind.u64 0, Value.int IntKind.u64 0, Value.int IntKind.u64 0, Value.int IntKind.u64 0, Value.int IntKind.u64 0, Value.int IntKind.u64 0, Value.int IntKind.u64 0, Value.int IntKind.u64 0, Value.int IntKind.u64 0, Value.int IntKind.u64 0, Value.int IntKind.u64 0, Value.int IntKind.u64 0, Value.int IntKind.u64 0, Value.int IntKind.u64 0, Value.int IntKind.u64 0, Value.int IntKind.u64 0, Value.int IntKind.u64 0, Value.int IntKind.u64 0] = [.lit (Value.int IntKind.u64 0), .lit (Value.int IntKind.u64 0), .lit (Value.int IntKind.u64 0), .lit (Value.int IntKind.u64 0), .lit (Value.int IntKind.u64 0), .lit (Value.int IntKind.u64 0), .lit (Value.int IntKind.u64 0), .lit (Value.int IntKind.u64 0), .lit (Value.int IntKind.u64 0), .lit (Value.int IntKind.u64 0), .lit (Value.int IntKind.u64 0), .lit (Value.int IntKind.u64 0), .lit (Value.int IntKind.u64 0), .lit (Value.int IntKind.u64 0), .lit (Value.int IntKind.u64 0), .lit (Value.int IntKind.u64 0), .lit (Value.int IntKind.u64 0), .lit (Value.int IntKind.u64 0), .lit (Value.int IntKind.u64 0), .lit (Value.int IntKind.u64 0)] := by kernel_rfl
@[simp] theorem z174 : zeroOf Tryz.prog 174 = some [Value.int IntKind.u64 0, Value.int IntKind.u64 0, Value.int IntKind.u64 0, Value.int IntKind.u64 0, Value.int IntKind.u64 0, Value.int IntKind.u64 0, Value.int IntKind.u64 0, Value.int IntKind.u64 0, Value.int IntKind.u64 0, Value.int IntKind.u64 0, Value.int IntKind.u64 0, Value.int IntKind.u64 0, Value.int IntKind.u64 0, Value.int IntKind.u64 0, Value.int IntKind.u64 0, Value.int IntKind.u64 0, Value.int IntKind.u64 0, Value.int IntKind.u64 0, Value.int IntKind.u64 0, Value.int IntKind.u64 0] := by kernel_rfl
@[simp] theorem pl174 : placesOf Tryz.prog 174 = none := by kernel_rfl
@[simp] theorem ar174 : arOf Tryz.prog 174 = some (20, false, 1) := by kernel_rfl
@[simp] theorem nel174 : elOf Tryz.prog 174 = none := by kernel_rfl
@[simp] theorem ty175 : tyOf Tryz.prog 175 = some (true, 65) := by kernel_rfl
@[simp] theorem pl175 : placesOf Tryz.prog 175 = none := by kernel_rfl
@[simp] theorem ar175 : arOf Tryz.prog 175 = some (65, false, 1) := by kernel_rfl
@[simp] theorem nel175 : elOf Tryz.prog 175 = none := by kernel_rfl
@[simp] theorem ty176 : tyOf Tryz.prog 176 = some (false, 1) := by kernel_rfl
@[simp] theorem pl176 : placesOf Tryz.prog 176 = none := by kernel_rfl
@[simp] theorem ty177 : tyOf Tryz.prog 177 = some (false, 1) := by kernel_rfl
@[simp] theorem pl177 : placesOf Tryz.prog 177 = none := by kernel_rfl
@[simp] theorem ty178 : tyOf Tryz.prog 178 = some (true, 32) := by kernel_rfl
@[simp] theorem zav178 : zAV Tryz.prog 178 [Value.int IntKind.u8 0, Value.int IntKind.u8 0, Value.int IntKind.u8 0, Value.int IntKind.u8 0, Value.int IntKind.u8 0, Value.int IntKind.u8 0, Value.int IntKind.u8 0, Value.int IntKind.u8 0, Value.int IntKind.u8 0, Value.int IntKind.u8 0, Value.int IntKind.u8 0, Value.int IntKind.u8 0, Value.int IntKind.u8 0, Value.int IntKind.u8 0, Value.int IntKind.u8 0, Value.int IntKind.u8 0, Value.int IntKind.u8 0, Value.int IntKind.u8 0, Value.int IntKind.u8 0, Value.int IntKind.u8 0, Value.int IntKind.u8 0, Value.int IntKind.u8 0, Value.int IntKind.u8 0, Value.int IntKind.u8 0, Value.int IntKind.u8 0, Value.int IntKind.u8 0, Value.int IntKind.u8 0, Value.int IntKind.u8 0, Value.int IntKind.u8 0, Value.int IntKind.u8 0, Value.int IntKind.u8 0, Value.int IntKind.u8 0] = [.lit (Value.int IntKind.u8 0), .lit (Value.int IntKind.u8 0), .lit (Value.int IntKind.u8 0), .lit (Value.int IntKind.u8 0), .lit (Value.int IntKind.u8 0), .lit (Value.int IntKind.u8 0), .lit (Value.int IntKind.u8 0), .lit (Value.int IntKind.u8 0), .lit (Value.int IntKind.u8 0), .lit (Value.int IntKind.u8 0), .lit (Value.int IntKind.u8 0), .lit (Value.int IntKind.u8 0), .lit (Value.int IntKind.u8 0), .lit (Value.int IntKind.u8 0), .lit (Value.int IntKind.u8 0), .lit (Value.int IntKind.u8 0), .lit (Value.int IntKind.u8 0), .lit (Value.int IntKind.u8 0), .lit (Value.int IntKind.u8 0), .lit (Value.int IntKind.u8 0), .lit (Value.int IntKind.u8 0), .lit (Value.int IntKind.u8 0), .lit (Value.int IntKind.u8 0), .lit (Value.int IntKind.u8 0), .lit (Value.int IntKind.u8 0), .lit (Value.int IntKind.u8 0), .lit (Value.int IntKind.u8 0), .lit (Value.int IntKind.u8 0), .lit (Value.int IntKind.u8 0), .lit (Value.int IntKind.u8 0), .lit (Value.int IntKind.u8 0), .lit (Value.int IntKind.u8 0)] := by kernel_rfl
@[simp] theorem z178 : zeroOf Tryz.prog 178 = some [Value.int IntKind.u8 0, Value.int IntKind.u8 0, Value.int IntKind.u8 0, Value.int IntKind.u8 0, Value.int IntKind.u8 0, Value.int IntKind.u8 0, Value.int IntKind.u8 0, Value.int IntKind.u8 0, Value.int IntKind.u8 0, Value.int IntKind.u8 0, Value.int IntKind.u8 0, Value.int IntKind.u8 0, Value.int IntKind.u8 0, Value.int IntKind.u8 0, Value.int IntKind.u8 0, Value.int IntKind.u8 0, Value.int IntKind.u8 0, Value.int IntKind.u8 0, Value.int IntKind.u8 0, Value.int IntKind.u8 0, Value.int IntKind.u8 0, Value.int IntKind.u8 0, Value.int IntKind.u8 0, Value.int IntKind.u8 0, Value.int IntKind.u8 0, Value.int IntKind.u8 0, Value.int IntKind.u8 0, Value.int IntKind.u8 0, Value.int IntKind.u8 0, Value.int IntKind.u8 0, Value.int IntKind.u8 0, Value.int IntKind.u8 0] := by kernel_rfl
@[simp] theorem pl178 : placesOf Tryz.prog 178 = none := by kernel_rfl
@[simp] theorem ar178 : arOf Tryz.prog 178 = some (32, false, 1) := by kernel_rfl
@[simp] theorem nel178 : elOf Tryz.prog 178 = none := by kernel_rfl
@[simp] theorem ty179 : tyOf Tryz.prog 179 = some (true, 64) := by kernel_rfl
@[simp] theorem pl179 : placesOf Tryz.prog 179 = none := by kernel_rfl
@[simp] theorem ar179 : arOf Tryz.prog 179 = some (64, false, 1) := by kernel_rfl
@[simp] theorem nel179 : elOf Tryz.prog 179 = none := by kernel_rfl
@[simp] theorem ty180 : tyOf Tryz.prog 180 = some (false, 1) := by kernel_rfl
@[simp] theorem pl180 : placesOf Tryz.prog 180 = none := by kernel_rfl
@[simp] theorem ty181 : tyOf Tryz.prog 181 = some (true, 4) := by kernel_rfl
@[simp] theorem zav181 : zAV Tryz.prog 181 [Value.pointer none, Value.pointer none, Value.pointer none, Value.string { data := #[] }] = [.lit (Value.pointer none), .lit (Value.pointer none), .lit (Value.pointer none), .lit (Value.string { data := #[] })] := by kernel_rfl
@[simp] theorem z181 : zeroOf Tryz.prog 181 = some [Value.pointer none, Value.pointer none, Value.pointer none, Value.string { data := #[] }] := by kernel_rfl
@[simp] theorem fld181_0 : fldOf Tryz.prog 181 0 = some (0, false, 1) := by kernel_rfl
@[simp] theorem fld181_1 : fldOf Tryz.prog 181 1 = some (1, false, 1) := by kernel_rfl
@[simp] theorem fld181_2 : fldOf Tryz.prog 181 2 = some (2, false, 1) := by kernel_rfl
@[simp] theorem fld181_3 : fldOf Tryz.prog 181 3 = some (3, false, 1) := by kernel_rfl
@[simp] theorem pl181 : placesOf Tryz.prog 181 = some [(0, 1), (1, 1), (2, 1), (3, 1)] := by kernel_rfl
@[simp] theorem ty182 : tyOf Tryz.prog 182 = some (true, 4) := by kernel_rfl
@[simp] theorem zav182 : zAV Tryz.prog 182 [Value.pointer none, Value.pointer none, Value.pointer none, Value.string { data := #[] }] = [.lit (Value.pointer none), .lit (Value.pointer none), .lit (Value.pointer none), .lit (Value.string { data := #[] })] := by kernel_rfl
@[simp] theorem z182 : zeroOf Tryz.prog 182 = some [Value.pointer none, Value.pointer none, Value.pointer none, Value.string { data := #[] }] := by kernel_rfl
@[simp] theorem fld182_0 : fldOf Tryz.prog 182 0 = some (0, false, 1) := by kernel_rfl
@[simp] theorem fld182_1 : fldOf Tryz.prog 182 1 = some (1, false, 1) := by kernel_rfl
@[simp] theorem fld182_2 : fldOf Tryz.prog 182 2 = some (2, false, 1) := by kernel_rfl
@[simp] theorem fld182_3 : fldOf Tryz.prog 182 3 = some (3, false, 1) := by kernel_rfl
@[simp] theorem pl182 : placesOf Tryz.prog 182 = some [(0, 1), (1, 1), (2, 1), (3, 1)] := by kernel_rfl
@[simp] theorem ty183 : tyOf Tryz.prog 183 = some (true, 0) := by kernel_rfl
@[simp] theorem zav183 : zAV Tryz.prog 183 [] = [] := by kernel_rfl
@[simp] theorem z183 : zeroOf Tryz.prog 183 = some [] := by kernel_rfl
@[simp] theorem pl183 : placesOf Tryz.prog 183 = none := by kernel_rfl
@[simp] theorem ar183 : arOf Tryz.prog 183 = some (0, false, 1) := by kernel_rfl
@[simp] theorem nel183 : elOf Tryz.prog 183 = none := by kernel_rfl
@[simp] theorem ty184 : tyOf Tryz.prog 184 = some (true, 0) := by kernel_rfl
@[simp] theorem zav184 : zAV Tryz.prog 184 [] = [] := by kernel_rfl
@[simp] theorem z184 : zeroOf Tryz.prog 184 = some [] := by kernel_rfl
@[simp] theorem fld184_0 : fldOf Tryz.prog 184 0 = some (0, true, 0) := by kernel_rfl
@[simp] theorem pl184 : placesOf Tryz.prog 184 = some [(0, 0)] := by kernel_rfl
@[simp] theorem ty185 : tyOf Tryz.prog 185 = some (true, 0) := by kernel_rfl
@[simp] theorem zav185 : zAV Tryz.prog 185 [] = [] := by kernel_rfl
@[simp] theorem z185 : zeroOf Tryz.prog 185 = some [] := by kernel_rfl
@[simp] theorem fld185_0 : fldOf Tryz.prog 185 0 = some (0, true, 0) := by kernel_rfl
@[simp] theorem pl185 : placesOf Tryz.prog 185 = some [(0, 0)] := by kernel_rfl
@[simp] theorem ty186 : tyOf Tryz.prog 186 = some (false, 1) := by kernel_rfl
@[simp] theorem pl186 : placesOf Tryz.prog 186 = none := by kernel_rfl
@[simp] theorem ty187 : tyOf Tryz.prog 187 = some (false, 1) := by kernel_rfl
@[simp] theorem zav187 : zAV Tryz.prog 187 [Value.int IntKind.u8 0] = [.lit (Value.int IntKind.u8 0)] := by kernel_rfl
@[simp] theorem z187 : zeroOf Tryz.prog 187 = some [Value.int IntKind.u8 0] := by kernel_rfl
@[simp] theorem pl187 : placesOf Tryz.prog 187 = none := by kernel_rfl
@[simp] theorem in187 : intT Tryz.prog 187 = some .u8 := by kernel_rfl
@[simp] theorem un187 : Tryz.prog.underlying 187 = some (.int .u8) := by kernel_rfl
@[simp] theorem ty188 : tyOf Tryz.prog 188 = some (false, 1) := by kernel_rfl
@[simp] theorem zav188 : zAV Tryz.prog 188 [Value.int IntKind.u8 0] = [.lit (Value.int IntKind.u8 0)] := by kernel_rfl
@[simp] theorem z188 : zeroOf Tryz.prog 188 = some [Value.int IntKind.u8 0] := by kernel_rfl
@[simp] theorem pl188 : placesOf Tryz.prog 188 = none := by kernel_rfl
@[simp] theorem in188 : intT Tryz.prog 188 = some .u8 := by kernel_rfl
@[simp] theorem un188 : Tryz.prog.underlying 188 = some (.int .u8) := by kernel_rfl
@[simp] theorem ty189 : tyOf Tryz.prog 189 = some (false, 1) := by kernel_rfl
@[simp] theorem pl189 : placesOf Tryz.prog 189 = none := by kernel_rfl
@[simp] theorem ty190 : tyOf Tryz.prog 190 = some (false, 1) := by kernel_rfl
@[simp] theorem zav190 : zAV Tryz.prog 190 [Value.pointer none] = [.lit (Value.pointer none)] := by kernel_rfl
@[simp] theorem z190 : zeroOf Tryz.prog 190 = some [Value.pointer none] := by kernel_rfl
@[simp] theorem pl190 : placesOf Tryz.prog 190 = none := by kernel_rfl
@[simp] theorem ty191 : tyOf Tryz.prog 191 = some (false, 1) := by kernel_rfl
@[simp] theorem zav191 : zAV Tryz.prog 191 [Value.int IntKind.i32 0] = [.lit (Value.int IntKind.i32 0)] := by kernel_rfl
@[simp] theorem z191 : zeroOf Tryz.prog 191 = some [Value.int IntKind.i32 0] := by kernel_rfl
@[simp] theorem pl191 : placesOf Tryz.prog 191 = none := by kernel_rfl
@[simp] theorem in191 : intT Tryz.prog 191 = some .i32 := by kernel_rfl
@[simp] theorem un191 : Tryz.prog.underlying 191 = some (.int .i32) := by kernel_rfl
@[simp] theorem ty192 : tyOf Tryz.prog 192 = some (false, 1) := by kernel_rfl
@[simp] theorem zav192 : zAV Tryz.prog 192 [Value.int IntKind.i32 0] = [.lit (Value.int IntKind.i32 0)] := by kernel_rfl
@[simp] theorem z192 : zeroOf Tryz.prog 192 = some [Value.int IntKind.i32 0] := by kernel_rfl
@[simp] theorem pl192 : placesOf Tryz.prog 192 = none := by kernel_rfl
@[simp] theorem in192 : intT Tryz.prog 192 = some .i32 := by kernel_rfl
@[simp] theorem un192 : Tryz.prog.underlying 192 = some (.int .i32) := by kernel_rfl
@[simp] theorem ty193 : tyOf Tryz.prog 193 = some (true, 11) := by kernel_rfl
@[simp] theorem zav193 : zAV Tryz.prog 193 [Value.int IntKind.u64 0, Value.int IntKind.u64 0, Value.int IntKind.u32 0, Value.int IntKind.u8 0, Value.int IntKind.u8 0, Value.int IntKind.u8 0, Value.int IntKind.u8 0, Value.nilFunc, Value.pointer none, Value.int IntKind.i32 0, Value.int IntKind.i32 0] = [.lit (Value.int IntKind.u64 0), .lit (Value.int IntKind.u64 0), .lit (Value.int IntKind.u32 0), .lit (Value.int IntKind.u8 0), .lit (Value.int IntKind.u8 0), .lit (Value.int IntKind.u8 0), .lit (Value.int IntKind.u8 0), .lit (Value.nilFunc), .lit (Value.pointer none), .lit (Value.int IntKind.i32 0), .lit (Value.int IntKind.i32 0)] := by kernel_rfl
@[simp] theorem z193 : zeroOf Tryz.prog 193 = some [Value.int IntKind.u64 0, Value.int IntKind.u64 0, Value.int IntKind.u32 0, Value.int IntKind.u8 0, Value.int IntKind.u8 0, Value.int IntKind.u8 0, Value.int IntKind.u8 0, Value.nilFunc, Value.pointer none, Value.int IntKind.i32 0, Value.int IntKind.i32 0] := by kernel_rfl
@[simp] theorem fld193_0 : fldOf Tryz.prog 193 0 = some (0, false, 1) := by kernel_rfl
@[simp] theorem fld193_1 : fldOf Tryz.prog 193 1 = some (1, false, 1) := by kernel_rfl
@[simp] theorem fld193_2 : fldOf Tryz.prog 193 2 = some (2, false, 1) := by kernel_rfl
@[simp] theorem fld193_3 : fldOf Tryz.prog 193 3 = some (3, false, 1) := by kernel_rfl
@[simp] theorem fld193_4 : fldOf Tryz.prog 193 4 = some (4, false, 1) := by kernel_rfl
@[simp] theorem fld193_5 : fldOf Tryz.prog 193 5 = some (5, false, 1) := by kernel_rfl
@[simp] theorem fld193_6 : fldOf Tryz.prog 193 6 = some (6, false, 1) := by kernel_rfl
@[simp] theorem fld193_7 : fldOf Tryz.prog 193 7 = some (7, false, 1) := by kernel_rfl
@[simp] theorem fld193_8 : fldOf Tryz.prog 193 8 = some (8, false, 1) := by kernel_rfl
@[simp] theorem fld193_9 : fldOf Tryz.prog 193 9 = some (9, false, 1) := by kernel_rfl
@[simp] theorem fld193_10 : fldOf Tryz.prog 193 10 = some (10, false, 1) := by kernel_rfl
@[simp] theorem pl193 : placesOf Tryz.prog 193 = some [(0, 1), (1, 1), (2, 1), (3, 1), (4, 1), (5, 1), (6, 1), (7, 1), (8, 1), (9, 1), (10, 1)] := by kernel_rfl
@[simp] theorem ty194 : tyOf Tryz.prog 194 = some (true, 11) := by kernel_rfl
@[simp] theorem zav194 : zAV Tryz.prog 194 [Value.int IntKind.u64 0, Value.int IntKind.u64 0, Value.int IntKind.u32 0, Value.int IntKind.u8 0, Value.int IntKind.u8 0, Value.int IntKind.u8 0, Value.int IntKind.u8 0, Value.nilFunc, Value.pointer none, Value.int IntKind.i32 0, Value.int IntKind.i32 0] = [.lit (Value.int IntKind.u64 0), .lit (Value.int IntKind.u64 0), .lit (Value.int IntKind.u32 0), .lit (Value.int IntKind.u8 0), .lit (Value.int IntKind.u8 0), .lit (Value.int IntKind.u8 0), .lit (Value.int IntKind.u8 0), .lit (Value.nilFunc), .lit (Value.pointer none), .lit (Value.int IntKind.i32 0), .lit (Value.int IntKind.i32 0)] := by kernel_rfl
@[simp] theorem z194 : zeroOf Tryz.prog 194 = some [Value.int IntKind.u64 0, Value.int IntKind.u64 0, Value.int IntKind.u32 0, Value.int IntKind.u8 0, Value.int IntKind.u8 0, Value.int IntKind.u8 0, Value.int IntKind.u8 0, Value.nilFunc, Value.pointer none, Value.int IntKind.i32 0, Value.int IntKind.i32 0] := by kernel_rfl
@[simp] theorem fld194_0 : fldOf Tryz.prog 194 0 = some (0, false, 1) := by kernel_rfl
@[simp] theorem fld194_1 : fldOf Tryz.prog 194 1 = some (1, false, 1) := by kernel_rfl
@[simp] theorem fld194_2 : fldOf Tryz.prog 194 2 = some (2, false, 1) := by kernel_rfl
@[simp] theorem fld194_3 : fldOf Tryz.prog 194 3 = some (3, false, 1) := by kernel_rfl
@[simp] theorem fld194_4 : fldOf Tryz.prog 194 4 = some (4, false, 1) := by kernel_rfl
@[simp] theorem fld194_5 : fldOf Tryz.prog 194 5 = some (5, false, 1) := by kernel_rfl
@[simp] theorem fld194_6 : fldOf Tryz.prog 194 6 = some (6, false, 1) := by kernel_rfl
@[simp] theorem fld194_7 : fldOf Tryz.prog 194 7 = some (7, false, 1) := by kernel_rfl
@[simp] theorem fld194_8 : fldOf Tryz.prog 194 8 = some (8, false, 1) := by kernel_rfl
@[simp] theorem fld194_9 : fldOf Tryz.prog 194 9 = some (9, false, 1) := by kernel_rfl
@[simp] theorem fld194_10 : fldOf Tryz.prog 194 10 = some (10, false, 1) := by kernel_rfl
@[simp] theorem pl194 : placesOf Tryz.prog 194 = some [(0, 1), (1, 1), (2, 1), (3, 1), (4, 1), (5, 1), (6, 1), (7, 1), (8, 1), (9, 1), (10, 1)] := by kernel_rfl
@[simp] theorem ty195 : tyOf Tryz.prog 195 = some (true, 4) := by kernel_rfl
@[simp] theorem zav195 : zAV Tryz.prog 195 [Value.int IntKind.i64 0, Value.int IntKind.i64 0, Value.int IntKind.i64 0, Value.int IntKind.i64 0] = [.lit (Value.int IntKind.i64 0), .lit (Value.int IntKind.i64 0), .lit (Value.int IntKind.i64 0), .lit (Value.int IntKind.i64 0)] := by kernel_rfl
@[simp] theorem z195 : zeroOf Tryz.prog 195 = some [Value.int IntKind.i64 0, Value.int IntKind.i64 0, Value.int IntKind.i64 0, Value.int IntKind.i64 0] := by kernel_rfl
@[simp] theorem fld195_0 : fldOf Tryz.prog 195 0 = some (0, false, 1) := by kernel_rfl
@[simp] theorem fld195_1 : fldOf Tryz.prog 195 1 = some (1, false, 1) := by kernel_rfl
@[simp] theorem fld195_2 : fldOf Tryz.prog 195 2 = some (2, false, 1) := by kernel_rfl
@[simp] theorem fld195_3 : fldOf Tryz.prog 195 3 = some (3, false, 1) := by kernel_rfl
@[simp] theorem pl195 : placesOf Tryz.prog 195 = some [(0, 1), (1, 1), (2, 1), (3, 1)] := by kernel_rfl
@[simp] theorem ty196 : tyOf Tryz.prog 196 = some (true, 4) := by kernel_rfl
@[simp] theorem zav196 : zAV Tryz.prog 196 [Value.int IntKind.i64 0, Value.int IntKind.i64 0, Value.int IntKind.i64 0, Value.int IntKind.i64 0] = [.lit (Value.int IntKind.i64 0), .lit (Value.int IntKind.i64 0), .lit (Value.int IntKind.i64 0), .lit (Value.int IntKind.i64 0)] := by kernel_rfl
@[simp] theorem z196 : zeroOf Tryz.prog 196 = some [Value.int IntKind.i64 0, Value.int IntKind.i64 0, Value.int IntKind.i64 0, Value.int IntKind.i64 0] := by kernel_rfl
@[simp] theorem fld196_0 : fldOf Tryz.prog 196 0 = some (0, false, 1) := by kernel_rfl
@[simp] theorem fld196_1 : fldOf Tryz.prog 196 1 = some (1, false, 1) := by kernel_rfl
@[simp] theorem fld196_2 : fldOf Tryz.prog 196 2 = some (2, false, 1) := by kernel_rfl
@[simp] theorem fld196_3 : fldOf Tryz.prog 196 3 = some (3, false, 1) := by kernel_rfl
@[simp] theorem pl196 : placesOf Tryz.prog 196 = some [(0, 1), (1, 1), (2, 1), (3, 1)] := by kernel_rfl
@[simp] theorem ty197 : tyOf Tryz.prog 197 = some (true, 7) := by kernel_rfl
@[simp] theorem zav197 : zAV Tryz.prog 197 [Value.int IntKind.i64 0, Value.int IntKind.i64 0, Value.int IntKind.i64 0, Value.int IntKind.i64 0, Value.bool false, Value.slice none 0 0, Value.slice none 0 0] = [.lit (Value.int IntKind.i64 0), .lit (Value.int IntKind.i64 0), .lit (Value.int IntKind.i64 0), .lit (Value.int IntKind.i64 0), .lit (Value.bool false), .nl 1, .nl 1] := by kernel_rfl
@[simp] theorem z197 : zeroOf Tryz.prog 197 = some [Value.int IntKind.i64 0, Value.int IntKind.i64 0, Value.int IntKind.i64 0, Value.int IntKind.i64 0, Value.bool false, Value.slice none 0 0, Value.slice none 0 0] := by kernel_rfl
@[simp] theorem fld197_0 : fldOf Tryz.prog 197 0 = some (0, true, 4) := by kernel_rfl
@[simp] theorem fld197_1 : fldOf Tryz.prog 197 1 = some (4, true, 3) := by kernel_rfl
@[simp] theorem pl197 : placesOf Tryz.prog 197 = some [(0, 4), (4, 3)] := by kernel_rfl
@[simp] theorem ty198 : tyOf Tryz.prog 198 = some (true, 7) := by kernel_rfl
@[simp] theorem zav198 : zAV Tryz.prog 198 [Value.int IntKind.i64 0, Value.int IntKind.i64 0, Value.int IntKind.i64 0, Value.int IntKind.i64 0, Value.bool false, Value.slice none 0 0, Value.slice none 0 0] = [.lit (Value.int IntKind.i64 0), .lit (Value.int IntKind.i64 0), .lit (Value.int IntKind.i64 0), .lit (Value.int IntKind.i64 0), .lit (Value.bool false), .nl 1, .nl 1] := by kernel_rfl
@[simp] theorem z198 : zeroOf Tryz.prog 198 = some [Value.int IntKind.i64 0, Value.int IntKind.i64 0, Value.int IntKind.i64 0, Value.int IntKind.i64 0, Value.bool false, Value.slice none 0 0, Value.slice none 0 0] := by kernel_rfl
@[simp] theorem fld198_0 : fldOf Tryz.prog 198 0 = some (0, true, 4) := by kernel_rfl
@[simp] theorem fld198_1 : fldOf Tryz.prog 198 1 = some (4, true, 3) := by kernel_rfl
@[simp] theorem pl198 : placesOf Tryz.prog 198 = some [(0, 4), (4, 3)] := by kernel_rfl
@[simp] theorem ty199 : tyOf Tryz.prog 199 = some (false, 1) := by kernel_rfl
@[simp] theorem zav199 : zAV Tryz.prog 199 [Value.pointer none] = [.lit (Value.pointer none)] := by kernel_rfl
@[simp] theorem z199 : zeroOf Tryz.prog 199 = some [Value.pointer none] := by kernel_rfl
@[simp] theorem pl199 : placesOf Tryz.prog 199 = none := by kernel_rfl
end Go.Proofs.YtjobiobdpnhooaaGreatDoor
