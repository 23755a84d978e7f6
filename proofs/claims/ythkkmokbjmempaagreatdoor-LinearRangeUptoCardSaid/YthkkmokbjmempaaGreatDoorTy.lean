/- Facts on the types of the program. -/
import Derived.Test.YthkkmokbjmempaaGreatDoorQ3
import Derived.Test.YthkkmokbjmempaaGreatDoorProg
import Derived.KernelRfl
set_option linter.all false
set_option linter.all false
namespace Go.Proofs.YthkkmokbjmempaaGreatDoor
open Go.RowKit
@[simp] theorem ty0 : tyOf Tryz.prog 0 = some (false, 1) := by kernel_rfl
@[simp] theorem zav0 : zAV Tryz.prog 0 [Value.tuple #[]] = [.lit (Value.tuple #[])] := by kernel_rfl
@[simp] theorem z0 : zeroOf Tryz.prog 0 = some [Value.tuple #[]] := by kernel_rfl
@[simp] theorem pl0 : placesOf Tryz.prog 0 = none := by kernel_rfl
@[simp] theorem ty1 : tyOf Tryz.prog 1 = some (false, 1) := by kernel_rfl
@[simp] theorem pl1 : placesOf Tryz.prog 1 = none := by kernel_rfl
@[simp] theorem ty2 : tyOf Tryz.prog 2 = some (false, 1) := by kernel_rfl
@[simp] theorem zav2 : zAV Tryz.prog 2 [Value.int IntKind.i64 0] = [.lit (Value.int IntKind.i64 0)] := by kernel_rfl
@[simp] theorem z2 : zeroOf Tryz.prog 2 = some [Value.int IntKind.i64 0] := by kernel_rfl
@[simp] theorem pl2 : placesOf Tryz.prog 2 = none := by kernel_rfl
@[simp] theorem in2 : intT Tryz.prog 2 = some .i64 := by kernel_rfl
@[simp] theorem un2 : Tryz.prog.underlying 2 = some (.int .i64) := by kernel_rfl
@[simp] theorem ty3 : tyOf Tryz.prog 3 = some (false, 1) := by kernel_rfl
@[simp] theorem zav3 : zAV Tryz.prog 3 [Value.int IntKind.i64 0] = [.lit (Value.int IntKind.i64 0)] := by kernel_rfl
@[simp] theorem z3 : zeroOf Tryz.prog 3 = some [Value.int IntKind.i64 0] := by kernel_rfl
@[simp] theorem pl3 : placesOf Tryz.prog 3 = none := by kernel_rfl
@[simp] theorem in3 : intT Tryz.prog 3 = some .i64 := by kernel_rfl
@[simp] theorem un3 : Tryz.prog.underlying 3 = some (.int .i64) := by kernel_rfl
@[simp] theorem ty4 : tyOf Tryz.prog 4 = some (false, 1) := by kernel_rfl
@[simp] theorem zav4 : zAV Tryz.prog 4 [Value.bool false] = [.lit (Value.bool false)] := by kernel_rfl
@[simp] theorem z4 : zeroOf Tryz.prog 4 = some [Value.bool false] := by kernel_rfl
@[simp] theorem pl4 : placesOf Tryz.prog 4 = none := by kernel_rfl
@[simp] theorem bo4 : boolT Tryz.prog 4 = true := by kernel_rfl
@[simp] theorem ty5 : tyOf Tryz.prog 5 = some (false, 1) := by kernel_rfl
@[simp] theorem zav5 : zAV Tryz.prog 5 [Value.int IntKind.u8 0] = [.lit (Value.int IntKind.u8 0)] := by kernel_rfl
@[simp] theorem z5 : zeroOf Tryz.prog 5 = some [Value.int IntKind.u8 0] := by kernel_rfl
@[simp] theorem pl5 : placesOf Tryz.prog 5 = none := by kernel_rfl
@[simp] theorem in5 : intT Tryz.prog 5 = some .u8 := by kernel_rfl
@[simp] theorem un5 : Tryz.prog.underlying 5 = some (.int .u8) := by kernel_rfl
@[simp] theorem ty6 : tyOf Tryz.prog 6 = some (false, 1) := by kernel_rfl
@[simp] theorem zav6 : zAV Tryz.prog 6 [Value.int IntKind.u8 0] = [.lit (Value.int IntKind.u8 0)] := by kernel_rfl
@[simp] theorem z6 : zeroOf Tryz.prog 6 = some [Value.int IntKind.u8 0] := by kernel_rfl
@[simp] theorem pl6 : placesOf Tryz.prog 6 = none := by kernel_rfl
@[simp] theorem in6 : intT Tryz.prog 6 = some .u8 := by kernel_rfl
@[simp] theorem un6 : Tryz.prog.underlying 6 = some (.int .u8) := by kernel_rfl
@[simp] theorem ty7 : tyOf Tryz.prog 7 = some (true, 4) := by kernel_rfl
@[simp] theorem zav7 : zAV Tryz.prog 7 [Value.int IntKind.i64 0, Value.int IntKind.i64 0, Value.bool false, Value.int IntKind.u8 0] = [.lit (Value.int IntKind.i64 0), .lit (Value.int IntKind.i64 0), .lit (Value.bool false), .lit (Value.int IntKind.u8 0)] := by kernel_rfl
@[simp] theorem z7 : zeroOf Tryz.prog 7 = some [Value.int IntKind.i64 0, Value.int IntKind.i64 0, Value.bool false, Value.int IntKind.u8 0] := by kernel_rfl
@[simp] theorem fld7_0 : fldOf Tryz.prog 7 0 = some (0, false, 1) := by kernel_rfl
@[simp] theorem fld7_1 : fldOf Tryz.prog 7 1 = some (1, false, 1) := by kernel_rfl
@[simp] theorem fld7_2 : fldOf Tryz.prog 7 2 = some (2, false, 1) := by kernel_rfl
@[simp] theorem fld7_3 : fldOf Tryz.prog 7 3 = some (3, false, 1) := by kernel_rfl
@[simp] theorem pl7 : placesOf Tryz.prog 7 = some [(0, 1), (1, 1), (2, 1), (3, 1)] := by kernel_rfl
@[simp] theorem ty8 : tyOf Tryz.prog 8 = some (true, 4) := by kernel_rfl
@[simp] theorem zav8 : zAV Tryz.prog 8 [Value.int IntKind.i64 0, Value.int IntKind.i64 0, Value.bool false, Value.int IntKind.u8 0] = [.lit (Value.int IntKind.i64 0), .lit (Value.int IntKind.i64 0), .lit (Value.bool false), .lit (Value.int IntKind.u8 0)] := by kernel_rfl
@[simp] theorem z8 : zeroOf Tryz.prog 8 = some [Value.int IntKind.i64 0, Value.int IntKind.i64 0, Value.bool false, Value.int IntKind.u8 0] := by kernel_rfl
@[simp] theorem fld8_0 : fldOf Tryz.prog 8 0 = some (0, false, 1) := by kernel_rfl
@[simp] theorem fld8_1 : fldOf Tryz.prog 8 1 = some (1, false, 1) := by kernel_rfl
@[simp] theorem fld8_2 : fldOf Tryz.prog 8 2 = some (2, false, 1) := by kernel_rfl
@[simp] theorem fld8_3 : fldOf Tryz.prog 8 3 = some (3, false, 1) := by kernel_rfl
@[simp] theorem pl8 : placesOf Tryz.prog 8 = some [(0, 1), (1, 1), (2, 1), (3, 1)] := by kernel_rfl
@[simp] theorem ty9 : tyOf Tryz.prog 9 = some (false, 1) := by kernel_rfl
@[simp] theorem zav9 : zAV Tryz.prog 9 [Value.string { data := #[] }] = [.lit (Value.string { data := #[] })] := by kernel_rfl
@[simp] theorem z9 : zeroOf Tryz.prog 9 = some [Value.string { data := #[] }] := by kernel_rfl
@[simp] theorem pl9 : placesOf Tryz.prog 9 = none := by kernel_rfl
@[simp] theorem st9 : strT Tryz.prog 9 = true := by kernel_rfl
@[simp] theorem ty10 : tyOf Tryz.prog 10 = some (false, 1) := by kernel_rfl
@[simp] theorem zav10 : zAV Tryz.prog 10 [Value.string { data := #[] }] = [.lit (Value.string { data := #[] })] := by kernel_rfl
@[simp] theorem z10 : zeroOf Tryz.prog 10 = some [Value.string { data := #[] }] := by kernel_rfl
@[simp] theorem pl10 : placesOf Tryz.prog 10 = none := by kernel_rfl
@[simp] theorem st10 : strT Tryz.prog 10 = true := by kernel_rfl
@[simp] theorem ty11 : tyOf Tryz.prog 11 = some (false, 1) := by kernel_rfl
@[simp] theorem zav11 : zAV Tryz.prog 11 [Value.string { data := #[] }] = [.lit (Value.string { data := #[] })] := by kernel_rfl
@[simp] theorem z11 : zeroOf Tryz.prog 11 = some [Value.string { data := #[] }] := by kernel_rfl
@[simp] theorem pl11 : placesOf Tryz.prog 11 = none := by kernel_rfl
@[simp] theorem st11 : strT Tryz.prog 11 = true := by kernel_rfl
@[simp] theorem ty12 : tyOf Tryz.prog 12 = some (false, 1) := by kernel_rfl
@[simp] theorem zav12 : zAV Tryz.prog 12 [Value.int IntKind.u64 0] = [.lit (Value.int IntKind.u64 0)] := by kernel_rfl
@[simp] theorem z12 : zeroOf Tryz.prog 12 = some [Value.int IntKind.u64 0] := by kernel_rfl
@[simp] theorem pl12 : placesOf Tryz.prog 12 = none := by kernel_rfl
@[simp] theorem in12 : intT Tryz.prog 12 = some .u64 := by kernel_rfl
@[simp] theorem un12 : Tryz.prog.underlying 12 = some (.int .u64) := by kernel_rfl
@[simp] theorem ty13 : tyOf Tryz.prog 13 = some (true, 2) := by kernel_rfl
@[simp] theorem zav13 : zAV Tryz.prog 13 [Value.string { data := #[] }, Value.int IntKind.u64 0] = [.lit (Value.string { data := #[] }), .lit (Value.int IntKind.u64 0)] := by kernel_rfl
@[simp] theorem z13 : zeroOf Tryz.prog 13 = some [Value.string { data := #[] }, Value.int IntKind.u64 0] := by kernel_rfl
@[simp] theorem fld13_0 : fldOf Tryz.prog 13 0 = some (0, false, 1) := by kernel_rfl
@[simp] theorem fld13_1 : fldOf Tryz.prog 13 1 = some (1, false, 1) := by kernel_rfl
@[simp] theorem pl13 : placesOf Tryz.prog 13 = some [(0, 1), (1, 1)] := by kernel_rfl
@[simp] theorem ty14 : tyOf Tryz.prog 14 = some (true, 2) := by kernel_rfl
@[simp] theorem zav14 : zAV Tryz.prog 14 [Value.string { data := #[] }, Value.int IntKind.u64 0] = [.lit (Value.string { data := #[] }), .lit (Value.int IntKind.u64 0)] := by kernel_rfl
@[simp] theorem z14 : zeroOf Tryz.prog 14 = some [Value.string { data := #[] }, Value.int IntKind.u64 0] := by kernel_rfl
@[simp] theorem fld14_0 : fldOf Tryz.prog 14 0 = some (0, false, 1) := by kernel_rfl
@[simp] theorem fld14_1 : fldOf Tryz.prog 14 1 = some (1, false, 1) := by kernel_rfl
@[simp] theorem pl14 : placesOf Tryz.prog 14 = some [(0, 1), (1, 1)] := by kernel_rfl
@[simp] theorem ty15 : tyOf Tryz.prog 15 = some (false, 1) := by kernel_rfl
@[simp] theorem zav15 : zAV Tryz.prog 15 [Value.pointer none] = [.lit (Value.pointer none)] := by kernel_rfl
@[simp] theorem z15 : zeroOf Tryz.prog 15 = some [Value.pointer none] := by kernel_rfl
@[simp] theorem pl15 : placesOf Tryz.prog 15 = none := by kernel_rfl
@[simp] theorem pt15 : ptT Tryz.prog 15 = some 211 := by kernel_rfl
@[simp] theorem ty16 : tyOf Tryz.prog 16 = some (false, 1) := by kernel_rfl
@[simp] theorem zav16 : zAV Tryz.prog 16 [Value.pointer none] = [.lit (Value.pointer none)] := by kernel_rfl
@[simp] theorem z16 : zeroOf Tryz.prog 16 = some [Value.pointer none] := by kernel_rfl
@[simp] theorem pl16 : placesOf Tryz.prog 16 = none := by kernel_rfl
@[simp] theorem pt16 : ptT Tryz.prog 16 = some 214 := by kernel_rfl
@[simp] theorem ty17 : tyOf Tryz.prog 17 = some (false, 1) := by kernel_rfl
@[simp] theorem zav17 : zAV Tryz.prog 17 [Value.pointer none] = [.lit (Value.pointer none)] := by kernel_rfl
@[simp] theorem z17 : zeroOf Tryz.prog 17 = some [Value.pointer none] := by kernel_rfl
@[simp] theorem pl17 : placesOf Tryz.prog 17 = none := by kernel_rfl
@[simp] theorem pt17 : ptT Tryz.prog 17 = some 221 := by kernel_rfl
@[simp] theorem ty18 : tyOf Tryz.prog 18 = some (true, 1) := by kernel_rfl
@[simp] theorem zav18 : zAV Tryz.prog 18 [Value.pointer none] = [.lit (Value.pointer none)] := by kernel_rfl
@[simp] theorem z18 : zeroOf Tryz.prog 18 = some [Value.pointer none] := by kernel_rfl
@[simp] theorem fld18_0 : fldOf Tryz.prog 18 0 = some (0, false, 1) := by kernel_rfl
@[simp] theorem pl18 : placesOf Tryz.prog 18 = some [(0, 1)] := by kernel_rfl
@[simp] theorem ty19 : tyOf Tryz.prog 19 = some (true, 1) := by kernel_rfl
@[simp] theorem zav19 : zAV Tryz.prog 19 [Value.pointer none] = [.lit (Value.pointer none)] := by kernel_rfl
@[simp] theorem z19 : zeroOf Tryz.prog 19 = some [Value.pointer none] := by kernel_rfl
@[simp] theorem fld19_0 : fldOf Tryz.prog 19 0 = some (0, false, 1) := by kernel_rfl
@[simp] theorem pl19 : placesOf Tryz.prog 19 = some [(0, 1)] := by kernel_rfl
@[simp] theorem ty20 : tyOf Tryz.prog 20 = some (false, 1) := by kernel_rfl
@[simp] theorem pl20 : placesOf Tryz.prog 20 = none := by kernel_rfl
@[simp] theorem ty21 : tyOf Tryz.prog 21 = some (false, 1) := by kernel_rfl
@[simp] theorem zav21 : zAV Tryz.prog 21 [Value.int IntKind.i32 0] = [.lit (Value.int IntKind.i32 0)] := by kernel_rfl
@[simp] theorem z21 : zeroOf Tryz.prog 21 = some [Value.int IntKind.i32 0] := by kernel_rfl
@[simp] theorem pl21 : placesOf Tryz.prog 21 = none := by kernel_rfl
@[simp] theorem in21 : intT Tryz.prog 21 = some .i32 := by kernel_rfl
@[simp] theorem un21 : Tryz.prog.underlying 21 = some (.int .i32) := by kernel_rfl
@[simp] theorem ty22 : tyOf Tryz.prog 22 = some (false, 1) := by kernel_rfl
@[simp] theorem zav22 : zAV Tryz.prog 22 [Value.slice none 0 0] = [.nl 4] := by kernel_rfl
@[simp] theorem z22 : zeroOf Tryz.prog 22 = some [Value.slice none 0 0] := by kernel_rfl
@[simp] theorem pl22 : placesOf Tryz.prog 22 = none := by kernel_rfl
@[simp] theorem el22 : elOf Tryz.prog 22 = some (29, true, 4, 80, [Value.slice none 0 0, Value.bool false, Value.slice none 0 0, Value.slice none 0 0]) := by kernel_rfl
@[simp] theorem ty23 : tyOf Tryz.prog 23 = some (false, 1) := by kernel_rfl
@[simp] theorem zav23 : zAV Tryz.prog 23 [Value.slice none 0 0] = [.nl 4] := by kernel_rfl
@[simp] theorem z23 : zeroOf Tryz.prog 23 = some [Value.slice none 0 0] := by kernel_rfl
@[simp] theorem pl23 : placesOf Tryz.prog 23 = none := by kernel_rfl
@[simp] theorem el23 : elOf Tryz.prog 23 = some (76, true, 4, 64, [Value.int IntKind.i64 0, Value.bool false, Value.slice none 0 0, Value.slice none 0 0]) := by kernel_rfl
@[simp] theorem ty24 : tyOf Tryz.prog 24 = some (false, 1) := by kernel_rfl
@[simp] theorem zav24 : zAV Tryz.prog 24 [Value.slice none 0 0] = [.nl 1] := by kernel_rfl
@[simp] theorem z24 : zeroOf Tryz.prog 24 = some [Value.slice none 0 0] := by kernel_rfl
@[simp] theorem pl24 : placesOf Tryz.prog 24 = none := by kernel_rfl
@[simp] theorem el24 : elOf Tryz.prog 24 = some (135, false, 1, 4, [Value.int IntKind.u32 0]) := by kernel_rfl
@[simp] theorem ty25 : tyOf Tryz.prog 25 = some (false, 1) := by kernel_rfl
@[simp] theorem zav25 : zAV Tryz.prog 25 [Value.slice none 0 0] = [.nl 1] := by kernel_rfl
@[simp] theorem z25 : zeroOf Tryz.prog 25 = some [Value.slice none 0 0] := by kernel_rfl
@[simp] theorem pl25 : placesOf Tryz.prog 25 = none := by kernel_rfl
@[simp] theorem el25 : elOf Tryz.prog 25 = some (135, false, 1, 4, [Value.int IntKind.u32 0]) := by kernel_rfl
@[simp] theorem ty26 : tyOf Tryz.prog 26 = some (true, 3) := by kernel_rfl
@[simp] theorem zav26 : zAV Tryz.prog 26 [Value.bool false, Value.slice none 0 0, Value.slice none 0 0] = [.lit (Value.bool false), .nl 1, .nl 1] := by kernel_rfl
@[simp] theorem z26 : zeroOf Tryz.prog 26 = some [Value.bool false, Value.slice none 0 0, Value.slice none 0 0] := by kernel_rfl
@[simp] theorem fld26_0 : fldOf Tryz.prog 26 0 = some (0, false, 1) := by kernel_rfl
@[simp] theorem fld26_1 : fldOf Tryz.prog 26 1 = some (1, false, 1) := by kernel_rfl
@[simp] theorem fld26_2 : fldOf Tryz.prog 26 2 = some (2, false, 1) := by kernel_rfl
@[simp] theorem pl26 : placesOf Tryz.prog 26 = some [(0, 1), (1, 1), (2, 1)] := by kernel_rfl
@[simp] theorem ty27 : tyOf Tryz.prog 27 = some (true, 3) := by kernel_rfl
@[simp] theorem zav27 : zAV Tryz.prog 27 [Value.bool false, Value.slice none 0 0, Value.slice none 0 0] = [.lit (Value.bool false), .nl 1, .nl 1] := by kernel_rfl
@[simp] theorem z27 : zeroOf Tryz.prog 27 = some [Value.bool false, Value.slice none 0 0, Value.slice none 0 0] := by kernel_rfl
@[simp] theorem fld27_0 : fldOf Tryz.prog 27 0 = some (0, false, 1) := by kernel_rfl
@[simp] theorem fld27_1 : fldOf Tryz.prog 27 1 = some (1, false, 1) := by kernel_rfl
@[simp] theorem fld27_2 : fldOf Tryz.prog 27 2 = some (2, false, 1) := by kernel_rfl
@[simp] theorem pl27 : placesOf Tryz.prog 27 = some [(0, 1), (1, 1), (2, 1)] := by kernel_rfl
@[simp] theorem ty28 : tyOf Tryz.prog 28 = some (true, 4) := by kernel_rfl
@[simp] theorem zav28 : zAV Tryz.prog 28 [Value.slice none 0 0, Value.bool false, Value.slice none 0 0, Value.slice none 0 0] = [.nl 4, .lit (Value.bool false), .nl 1, .nl 1] := by kernel_rfl
@[simp] theorem z28 : zeroOf Tryz.prog 28 = some [Value.slice none 0 0, Value.bool false, Value.slice none 0 0, Value.slice none 0 0] := by kernel_rfl
@[simp] theorem fld28_0 : fldOf Tryz.prog 28 0 = some (0, false, 1) := by kernel_rfl
@[simp] theorem fld28_1 : fldOf Tryz.prog 28 1 = some (1, true, 3) := by kernel_rfl
@[simp] theorem pl28 : placesOf Tryz.prog 28 = some [(0, 1), (1, 3)] := by kernel_rfl
@[simp] theorem ty29 : tyOf Tryz.prog 29 = some (true, 4) := by kernel_rfl
@[simp] theorem zav29 : zAV Tryz.prog 29 [Value.slice none 0 0, Value.bool false, Value.slice none 0 0, Value.slice none 0 0] = [.nl 4, .lit (Value.bool false), .nl 1, .nl 1] := by kernel_rfl
@[simp] theorem z29 : zeroOf Tryz.prog 29 = some [Value.slice none 0 0, Value.bool false, Value.slice none 0 0, Value.slice none 0 0] := by kernel_rfl
@[simp] theorem fld29_0 : fldOf Tryz.prog 29 0 = some (0, false, 1) := by kernel_rfl
@[simp] theorem fld29_1 : fldOf Tryz.prog 29 1 = some (1, true, 3) := by kernel_rfl
@[simp] theorem pl29 : placesOf Tryz.prog 29 = some [(0, 1), (1, 3)] := by kernel_rfl
@[simp] theorem ty30 : tyOf Tryz.prog 30 = some (true, 6) := by kernel_rfl
@[simp] theorem zav30 : zAV Tryz.prog 30 [Value.int IntKind.i64 0, Value.slice none 0 0, Value.slice none 0 0, Value.bool false, Value.slice none 0 0, Value.slice none 0 0] = [.lit (Value.int IntKind.i64 0), .nl 4, .nl 4, .lit (Value.bool false), .nl 1, .nl 1] := by kernel_rfl
@[simp] theorem z30 : zeroOf Tryz.prog 30 = some [Value.int IntKind.i64 0, Value.slice none 0 0, Value.slice none 0 0, Value.bool false, Value.slice none 0 0, Value.slice none 0 0] := by kernel_rfl
@[simp] theorem fld30_0 : fldOf Tryz.prog 30 0 = some (0, false, 1) := by kernel_rfl
@[simp] theorem fld30_1 : fldOf Tryz.prog 30 1 = some (1, false, 1) := by kernel_rfl
@[simp] theorem fld30_2 : fldOf Tryz.prog 30 2 = some (2, true, 4) := by kernel_rfl
@[simp] theorem pl30 : placesOf Tryz.prog 30 = some [(0, 1), (1, 1), (2, 4)] := by kernel_rfl
@[simp] theorem ty31 : tyOf Tryz.prog 31 = some (true, 6) := by kernel_rfl
@[simp] theorem zav31 : zAV Tryz.prog 31 [Value.int IntKind.i64 0, Value.slice none 0 0, Value.slice none 0 0, Value.bool false, Value.slice none 0 0, Value.slice none 0 0] = [.lit (Value.int IntKind.i64 0), .nl 4, .nl 4, .lit (Value.bool false), .nl 1, .nl 1] := by kernel_rfl
@[simp] theorem z31 : zeroOf Tryz.prog 31 = some [Value.int IntKind.i64 0, Value.slice none 0 0, Value.slice none 0 0, Value.bool false, Value.slice none 0 0, Value.slice none 0 0] := by kernel_rfl
@[simp] theorem fld31_0 : fldOf Tryz.prog 31 0 = some (0, false, 1) := by kernel_rfl
@[simp] theorem fld31_1 : fldOf Tryz.prog 31 1 = some (1, false, 1) := by kernel_rfl
@[simp] theorem fld31_2 : fldOf Tryz.prog 31 2 = some (2, true, 4) := by kernel_rfl
@[simp] theorem pl31 : placesOf Tryz.prog 31 = some [(0, 1), (1, 1), (2, 4)] := by kernel_rfl
@[simp] theorem ty32 : tyOf Tryz.prog 32 = some (false, 1) := by kernel_rfl
@[simp] theorem pl32 : placesOf Tryz.prog 32 = none := by kernel_rfl
@[simp] theorem ty33 : tyOf Tryz.prog 33 = some (false, 1) := by kernel_rfl
@[simp] theorem pl33 : placesOf Tryz.prog 33 = none := by kernel_rfl
@[simp] theorem ty34 : tyOf Tryz.prog 34 = some (false, 1) := by kernel_rfl
@[simp] theorem pl34 : placesOf Tryz.prog 34 = none := by kernel_rfl
@[simp] theorem ty35 : tyOf Tryz.prog 35 = some (false, 1) := by kernel_rfl
@[simp] theorem pl35 : placesOf Tryz.prog 35 = none := by kernel_rfl
@[simp] theorem ty36 : tyOf Tryz.prog 36 = some (false, 1) := by kernel_rfl
@[simp] theorem pl36 : placesOf Tryz.prog 36 = none := by kernel_rfl
@[simp] theorem ty37 : tyOf Tryz.prog 37 = some (false, 1) := by kernel_rfl
@[simp] theorem pl37 : placesOf Tryz.prog 37 = none := by kernel_rfl
@[simp] theorem ty38 : tyOf Tryz.prog 38 = some (false, 1) := by kernel_rfl
@[simp] theorem zav38 : zAV Tryz.prog 38 [Value.int IntKind.i64 0] = [.lit (Value.int IntKind.i64 0)] := by kernel_rfl
@[simp] theorem z38 : zeroOf Tryz.prog 38 = some [Value.int IntKind.i64 0] := by kernel_rfl
@[simp] theorem pl38 : placesOf Tryz.prog 38 = none := by kernel_rfl
@[simp] theorem in38 : intT Tryz.prog 38 = some .i64 := by kernel_rfl
@[simp] theorem un38 : Tryz.prog.underlying 38 = some (.int .i64) := by kernel_rfl
@[simp] theorem ty39 : tyOf Tryz.prog 39 = some (false, 1) := by kernel_rfl
@[simp] theorem zav39 : zAV Tryz.prog 39 [Value.tuple #[Value.agg #[Value.slice none 0 0, Value.bool false, Value.slice none 0 0, Value.slice none 0 0], Value.int IntKind.i64 0, Value.int IntKind.i64 0]] = [.lit (Value.tuple #[Value.agg #[Value.slice none 0 0, Value.bool false, Value.slice none 0 0, Value.slice none 0 0], Value.int IntKind.i64 0, Value.int IntKind.i64 0])] := by kernel_rfl
@[simp] theorem z39 : zeroOf Tryz.prog 39 = some [Value.tuple #[Value.agg #[Value.slice none 0 0, Value.bool false, Value.slice none 0 0, Value.slice none 0 0], Value.int IntKind.i64 0, Value.int IntKind.i64 0]] := by kernel_rfl
@[simp] theorem pl39 : placesOf Tryz.prog 39 = none := by kernel_rfl
@[simp] theorem ty40 : tyOf Tryz.prog 40 = some (false, 1) := by kernel_rfl
@[simp] theorem pl40 : placesOf Tryz.prog 40 = none := by kernel_rfl
@[simp] theorem ty41 : tyOf Tryz.prog 41 = some (false, 1) := by kernel_rfl
@[simp] theorem pl41 : placesOf Tryz.prog 41 = none := by kernel_rfl
@[simp] theorem ty42 : tyOf Tryz.prog 42 = some (false, 1) := by kernel_rfl
@[simp] theorem pl42 : placesOf Tryz.prog 42 = none := by kernel_rfl
@[simp] theorem ty43 : tyOf Tryz.prog 43 = some (false, 1) := by kernel_rfl
@[simp] theorem zav43 : zAV Tryz.prog 43 [Value.slice none 0 0] = [.nl 3] := by kernel_rfl
@[simp] theorem z43 : zeroOf Tryz.prog 43 = some [Value.slice none 0 0] := by kernel_rfl
@[simp] theorem pl43 : placesOf Tryz.prog 43 = none := by kernel_rfl
@[simp] theorem el43 : elOf Tryz.prog 43 = some (27, true, 3, 56, [Value.bool false, Value.slice none 0 0, Value.slice none 0 0]) := by kernel_rfl
@[simp] theorem ty44 : tyOf Tryz.prog 44 = some (false, 1) := by kernel_rfl
@[simp] theorem pl44 : placesOf Tryz.prog 44 = none := by kernel_rfl
@[simp] theorem ty45 : tyOf Tryz.prog 45 = some (false, 1) := by kernel_rfl
@[simp] theorem pl45 : placesOf Tryz.prog 45 = none := by kernel_rfl
@[simp] theorem ty46 : tyOf Tryz.prog 46 = some (false, 1) := by kernel_rfl
@[simp] theorem pl46 : placesOf Tryz.prog 46 = none := by kernel_rfl
@[simp] theorem ty47 : tyOf Tryz.prog 47 = some (false, 1) := by kernel_rfl
@[simp] theorem zav47 : zAV Tryz.prog 47 [Value.tuple #[Value.agg #[Value.bool false, Value.slice none 0 0, Value.slice none 0 0], Value.int IntKind.i64 0]] = [.lit (Value.tuple #[Value.agg #[Value.bool false, Value.slice none 0 0, Value.slice none 0 0], Value.int IntKind.i64 0])] := by kernel_rfl
@[simp] theorem z47 : zeroOf Tryz.prog 47 = some [Value.tuple #[Value.agg #[Value.bool false, Value.slice none 0 0, Value.slice none 0 0], Value.int IntKind.i64 0]] := by kernel_rfl
@[simp] theorem pl47 : placesOf Tryz.prog 47 = none := by kernel_rfl
@[simp] theorem ty48 : tyOf Tryz.prog 48 = some (false, 1) := by kernel_rfl
@[simp] theorem pl48 : placesOf Tryz.prog 48 = none := by kernel_rfl
@[simp] theorem ty49 : tyOf Tryz.prog 49 = some (false, 1) := by kernel_rfl
@[simp] theorem pl49 : placesOf Tryz.prog 49 = none := by kernel_rfl
@[simp] theorem ty50 : tyOf Tryz.prog 50 = some (false, 1) := by kernel_rfl
@[simp] theorem pl50 : placesOf Tryz.prog 50 = none := by kernel_rfl
@[simp] theorem ty51 : tyOf Tryz.prog 51 = some (false, 1) := by kernel_rfl
@[simp] theorem pl51 : placesOf Tryz.prog 51 = none := by kernel_rfl
@[simp] theorem ty52 : tyOf Tryz.prog 52 = some (false, 1) := by kernel_rfl
@[simp] theorem pl52 : placesOf Tryz.prog 52 = none := by kernel_rfl
@[simp] theorem ty53 : tyOf Tryz.prog 53 = some (false, 1) := by kernel_rfl
@[simp] theorem pl53 : placesOf Tryz.prog 53 = none := by kernel_rfl
@[simp] theorem ty54 : tyOf Tryz.prog 54 = some (false, 1) := by kernel_rfl
@[simp] theorem pl54 : placesOf Tryz.prog 54 = none := by kernel_rfl
@[simp] theorem ty55 : tyOf Tryz.prog 55 = some (false, 1) := by kernel_rfl
@[simp] theorem zav55 : zAV Tryz.prog 55 [Value.slice none 0 0] = [.nl 6] := by kernel_rfl
@[simp] theorem z55 : zeroOf Tryz.prog 55 = some [Value.slice none 0 0] := by kernel_rfl
@[simp] theorem pl55 : placesOf Tryz.prog 55 = none := by kernel_rfl
@[simp] theorem el55 : elOf Tryz.prog 55 = some (58, true, 6, 112, [Value.bool false, Value.slice none 0 0, Value.slice none 0 0, Value.bool false, Value.slice none 0 0, Value.slice none 0 0]) := by kernel_rfl
@[simp] theorem ty56 : tyOf Tryz.prog 56 = some (false, 1) := by kernel_rfl
@[simp] theorem pl56 : placesOf Tryz.prog 56 = none := by kernel_rfl
@[simp] theorem ty57 : tyOf Tryz.prog 57 = some (true, 6) := by kernel_rfl
@[simp] theorem zav57 : zAV Tryz.prog 57 [Value.bool false, Value.slice none 0 0, Value.slice none 0 0, Value.bool false, Value.slice none 0 0, Value.slice none 0 0] = [.lit (Value.bool false), .nl 1, .nl 1, .lit (Value.bool false), .nl 1, .nl 1] := by kernel_rfl
@[simp] theorem z57 : zeroOf Tryz.prog 57 = some [Value.bool false, Value.slice none 0 0, Value.slice none 0 0, Value.bool false, Value.slice none 0 0, Value.slice none 0 0] := by kernel_rfl
@[simp] theorem fld57_0 : fldOf Tryz.prog 57 0 = some (0, true, 3) := by kernel_rfl
@[simp] theorem fld57_1 : fldOf Tryz.prog 57 1 = some (3, true, 3) := by kernel_rfl
@[simp] theorem pl57 : placesOf Tryz.prog 57 = some [(0, 3), (3, 3)] := by kernel_rfl
@[simp] theorem ty58 : tyOf Tryz.prog 58 = some (true, 6) := by kernel_rfl
@[simp] theorem zav58 : zAV Tryz.prog 58 [Value.bool false, Value.slice none 0 0, Value.slice none 0 0, Value.bool false, Value.slice none 0 0, Value.slice none 0 0] = [.lit (Value.bool false), .nl 1, .nl 1, .lit (Value.bool false), .nl 1, .nl 1] := by kernel_rfl
@[simp] theorem z58 : zeroOf Tryz.prog 58 = some [Value.bool false, Value.slice none 0 0, Value.slice none 0 0, Value.bool false, Value.slice none 0 0, Value.slice none 0 0] := by kernel_rfl
@[simp] theorem fld58_0 : fldOf Tryz.prog 58 0 = some (0, true, 3) := by kernel_rfl
@[simp] theorem fld58_1 : fldOf Tryz.prog 58 1 = some (3, true, 3) := by kernel_rfl
@[simp] theorem pl58 : placesOf Tryz.prog 58 = some [(0, 3), (3, 3)] := by kernel_rfl
@[simp] theorem ty59 : tyOf Tryz.prog 59 = some (false, 1) := by kernel_rfl
@[simp] theorem zav59 : zAV Tryz.prog 59 [Value.tuple #[Value.agg #[Value.bool false, Value.slice none 0 0, Value.slice none 0 0, Value.bool false, Value.slice none 0 0, Value.slice none 0 0], Value.int IntKind.i64 0]] = [.lit (Value.tuple #[Value.agg #[Value.bool false, Value.slice none 0 0, Value.slice none 0 0, Value.bool false, Value.slice none 0 0, Value.slice none 0 0], Value.int IntKind.i64 0])] := by kernel_rfl
@[simp] theorem z59 : zeroOf Tryz.prog 59 = some [Value.tuple #[Value.agg #[Value.bool false, Value.slice none 0 0, Value.slice none 0 0, Value.bool false, Value.slice none 0 0, Value.slice none 0 0], Value.int IntKind.i64 0]] := by kernel_rfl
@[simp] theorem pl59 : placesOf Tryz.prog 59 = none := by kernel_rfl
@[simp] theorem ty60 : tyOf Tryz.prog 60 = some (false, 1) := by kernel_rfl
@[simp] theorem pl60 : placesOf Tryz.prog 60 = none := by kernel_rfl
@[simp] theorem ty61 : tyOf Tryz.prog 61 = some (false, 1) := by kernel_rfl
@[simp] theorem pl61 : placesOf Tryz.prog 61 = none := by kernel_rfl
@[simp] theorem ty62 : tyOf Tryz.prog 62 = some (false, 1) := by kernel_rfl
@[simp] theorem pl62 : placesOf Tryz.prog 62 = none := by kernel_rfl
@[simp] theorem ty63 : tyOf Tryz.prog 63 = some (false, 1) := by kernel_rfl
@[simp] theorem pl63 : placesOf Tryz.prog 63 = none := by kernel_rfl
@[simp] theorem ty64 : tyOf Tryz.prog 64 = some (false, 1) := by kernel_rfl
@[simp] theorem pl64 : placesOf Tryz.prog 64 = none := by kernel_rfl
@[simp] theorem ty65 : tyOf Tryz.prog 65 = some (false, 1) := by kernel_rfl
@[simp] theorem pl65 : placesOf Tryz.prog 65 = none := by kernel_rfl
@[simp] theorem ty66 : tyOf Tryz.prog 66 = some (false, 1) := by kernel_rfl
@[simp] theorem zav66 : zAV Tryz.prog 66 [Value.tuple #[Value.agg #[Value.slice none 0 0, Value.bool false, Value.slice none 0 0, Value.slice none 0 0], Value.int IntKind.i64 0]] = [.lit (Value.tuple #[Value.agg #[Value.slice none 0 0, Value.bool false, Value.slice none 0 0, Value.slice none 0 0], Value.int IntKind.i64 0])] := by kernel_rfl
@[simp] theorem z66 : zeroOf Tryz.prog 66 = some [Value.tuple #[Value.agg #[Value.slice none 0 0, Value.bool false, Value.slice none 0 0, Value.slice none 0 0], Value.int IntKind.i64 0]] := by kernel_rfl
@[simp] theorem pl66 : placesOf Tryz.prog 66 = none := by kernel_rfl
@[simp] theorem ty67 : tyOf Tryz.prog 67 = some (false, 1) := by kernel_rfl
@[simp] theorem pl67 : placesOf Tryz.prog 67 = none := by kernel_rfl
@[simp] theorem ty68 : tyOf Tryz.prog 68 = some (false, 1) := by kernel_rfl
@[simp] theorem pl68 : placesOf Tryz.prog 68 = none := by kernel_rfl
@[simp] theorem ty69 : tyOf Tryz.prog 69 = some (false, 1) := by kernel_rfl
@[simp] theorem zav69 : zAV Tryz.prog 69 [Value.tuple #[Value.agg #[Value.int IntKind.i64 0, Value.slice none 0 0, Value.slice none 0 0, Value.bool false, Value.slice none 0 0, Value.slice none 0 0], Value.int IntKind.i64 0]] = [.lit (Value.tuple #[Value.agg #[Value.int IntKind.i64 0, Value.slice none 0 0, Value.slice none 0 0, Value.bool false, Value.slice none 0 0, Value.slice none 0 0], Value.int IntKind.i64 0])] := by kernel_rfl
@[simp] theorem z69 : zeroOf Tryz.prog 69 = some [Value.tuple #[Value.agg #[Value.int IntKind.i64 0, Value.slice none 0 0, Value.slice none 0 0, Value.bool false, Value.slice none 0 0, Value.slice none 0 0], Value.int IntKind.i64 0]] := by kernel_rfl
@[simp] theorem pl69 : placesOf Tryz.prog 69 = none := by kernel_rfl
@[simp] theorem ty70 : tyOf Tryz.prog 70 = some (false, 1) := by kernel_rfl
@[simp] theorem pl70 : placesOf Tryz.prog 70 = none := by kernel_rfl
@[simp] theorem ty71 : tyOf Tryz.prog 71 = some (false, 1) := by kernel_rfl
@[simp] theorem pl71 : placesOf Tryz.prog 71 = none := by kernel_rfl
@[simp] theorem ty72 : tyOf Tryz.prog 72 = some (false, 1) := by kernel_rfl
@[simp] theorem pl72 : placesOf Tryz.prog 72 = none := by kernel_rfl
@[simp] theorem ty73 : tyOf Tryz.prog 73 = some (false, 1) := by kernel_rfl
@[simp] theorem pl73 : placesOf Tryz.prog 73 = none := by kernel_rfl
@[simp] theorem ty74 : tyOf Tryz.prog 74 = some (false, 1) := by kernel_rfl
@[simp] theorem pl74 : placesOf Tryz.prog 74 = none := by kernel_rfl
@[simp] theorem ty75 : tyOf Tryz.prog 75 = some (true, 4) := by kernel_rfl
@[simp] theorem zav75 : zAV Tryz.prog 75 [Value.int IntKind.i64 0, Value.bool false, Value.slice none 0 0, Value.slice none 0 0] = [.lit (Value.int IntKind.i64 0), .lit (Value.bool false), .nl 1, .nl 1] := by kernel_rfl
@[simp] theorem z75 : zeroOf Tryz.prog 75 = some [Value.int IntKind.i64 0, Value.bool false, Value.slice none 0 0, Value.slice none 0 0] := by kernel_rfl
@[simp] theorem fld75_0 : fldOf Tryz.prog 75 0 = some (0, false, 1) := by kernel_rfl
@[simp] theorem fld75_1 : fldOf Tryz.prog 75 1 = some (1, true, 3) := by kernel_rfl
@[simp] theorem pl75 : placesOf Tryz.prog 75 = some [(0, 1), (1, 3)] := by kernel_rfl
@[simp] theorem ty76 : tyOf Tryz.prog 76 = some (true, 4) := by kernel_rfl
@[simp] theorem zav76 : zAV Tryz.prog 76 [Value.int IntKind.i64 0, Value.bool false, Value.slice none 0 0, Value.slice none 0 0] = [.lit (Value.int IntKind.i64 0), .lit (Value.bool false), .nl 1, .nl 1] := by kernel_rfl
@[simp] theorem z76 : zeroOf Tryz.prog 76 = some [Value.int IntKind.i64 0, Value.bool false, Value.slice none 0 0, Value.slice none 0 0] := by kernel_rfl
@[simp] theorem fld76_0 : fldOf Tryz.prog 76 0 = some (0, false, 1) := by kernel_rfl
@[simp] theorem fld76_1 : fldOf Tryz.prog 76 1 = some (1, true, 3) := by kernel_rfl
@[simp] theorem pl76 : placesOf Tryz.prog 76 = some [(0, 1), (1, 3)] := by kernel_rfl
@[simp] theorem ty77 : tyOf Tryz.prog 77 = some (false, 1) := by kernel_rfl
@[simp] theorem pl77 : placesOf Tryz.prog 77 = none := by kernel_rfl
@[simp] theorem ty78 : tyOf Tryz.prog 78 = some (false, 1) := by kernel_rfl
@[simp] theorem zav78 : zAV Tryz.prog 78 [Value.pointer none] = [.lit (Value.pointer none)] := by kernel_rfl
@[simp] theorem z78 : zeroOf Tryz.prog 78 = some [Value.pointer none] := by kernel_rfl
@[simp] theorem pl78 : placesOf Tryz.prog 78 = none := by kernel_rfl
@[simp] theorem pt78 : ptT Tryz.prog 78 = some 81 := by kernel_rfl
@[simp] theorem ty79 : tyOf Tryz.prog 79 = some (false, 1) := by kernel_rfl
@[simp] theorem zav79 : zAV Tryz.prog 79 [Value.slice none 0 0] = [.nl 1] := by kernel_rfl
@[simp] theorem z79 : zeroOf Tryz.prog 79 = some [Value.slice none 0 0] := by kernel_rfl
@[simp] theorem pl79 : placesOf Tryz.prog 79 = none := by kernel_rfl
@[simp] theorem el79 : elOf Tryz.prog 79 = some (5, false, 1, 1, [Value.int IntKind.u8 0]) := by kernel_rfl
@[simp] theorem by79 : bytT Tryz.prog 79 = some 5 := by kernel_rfl
@[simp] theorem ty80 : tyOf Tryz.prog 80 = some (true, 2) := by kernel_rfl
@[simp] theorem zav80 : zAV Tryz.prog 80 [Value.pointer none, Value.slice none 0 0] = [.lit (Value.pointer none), .nl 1] := by kernel_rfl
@[simp] theorem z80 : zeroOf Tryz.prog 80 = some [Value.pointer none, Value.slice none 0 0] := by kernel_rfl
@[simp] theorem fld80_0 : fldOf Tryz.prog 80 0 = some (0, false, 1) := by kernel_rfl
@[simp] theorem fld80_1 : fldOf Tryz.prog 80 1 = some (1, false, 1) := by kernel_rfl
@[simp] theorem pl80 : placesOf Tryz.prog 80 = some [(0, 1), (1, 1)] := by kernel_rfl
@[simp] theorem ty81 : tyOf Tryz.prog 81 = some (true, 2) := by kernel_rfl
@[simp] theorem zav81 : zAV Tryz.prog 81 [Value.pointer none, Value.slice none 0 0] = [.lit (Value.pointer none), .nl 1] := by kernel_rfl
@[simp] theorem z81 : zeroOf Tryz.prog 81 = some [Value.pointer none, Value.slice none 0 0] := by kernel_rfl
@[simp] theorem fld81_0 : fldOf Tryz.prog 81 0 = some (0, false, 1) := by kernel_rfl
@[simp] theorem fld81_1 : fldOf Tryz.prog 81 1 = some (1, false, 1) := by kernel_rfl
@[simp] theorem pl81 : placesOf Tryz.prog 81 = some [(0, 1), (1, 1)] := by kernel_rfl
@[simp] theorem ty82 : tyOf Tryz.prog 82 = some (false, 1) := by kernel_rfl
@[simp] theorem pl82 : placesOf Tryz.prog 82 = none := by kernel_rfl
@[simp] theorem ty83 : tyOf Tryz.prog 83 = some (false, 1) := by kernel_rfl
@[simp] theorem pl83 : placesOf Tryz.prog 83 = none := by kernel_rfl
@[simp] theorem ty84 : tyOf Tryz.prog 84 = some (false, 1) := by kernel_rfl
@[simp] theorem zav84 : zAV Tryz.prog 84 [Value.tuple #[Value.int IntKind.i64 0, Value.nilIface]] = [.lit (Value.tuple #[Value.int IntKind.i64 0, Value.nilIface])] := by kernel_rfl
@[simp] theorem z84 : zeroOf Tryz.prog 84 = some [Value.tuple #[Value.int IntKind.i64 0, Value.nilIface]] := by kernel_rfl
@[simp] theorem pl84 : placesOf Tryz.prog 84 = none := by kernel_rfl
@[simp] theorem ty85 : tyOf Tryz.prog 85 = some (false, 1) := by kernel_rfl
@[simp] theorem pl85 : placesOf Tryz.prog 85 = none := by kernel_rfl
@[simp] theorem ty86 : tyOf Tryz.prog 86 = some (false, 1) := by kernel_rfl
@[simp] theorem pl86 : placesOf Tryz.prog 86 = none := by kernel_rfl
@[simp] theorem ty87 : tyOf Tryz.prog 87 = some (false, 1) := by kernel_rfl
@[simp] theorem pl87 : placesOf Tryz.prog 87 = none := by kernel_rfl
@[simp] theorem ty88 : tyOf Tryz.prog 88 = some (false, 1) := by kernel_rfl
@[simp] theorem pl88 : placesOf Tryz.prog 88 = none := by kernel_rfl
@[simp] theorem ty89 : tyOf Tryz.prog 89 = some (false, 1) := by kernel_rfl
@[simp] theorem pl89 : placesOf Tryz.prog 89 = none := by kernel_rfl
@[simp] theorem ty90 : tyOf Tryz.prog 90 = some (false, 1) := by kernel_rfl
@[simp] theorem pl90 : placesOf Tryz.prog 90 = none := by kernel_rfl
@[simp] theorem ty91 : tyOf Tryz.prog 91 = some (false, 1) := by kernel_rfl
@[simp] theorem pl91 : placesOf Tryz.prog 91 = none := by kernel_rfl
@[simp] theorem ty92 : tyOf Tryz.prog 92 = some (false, 1) := by kernel_rfl
@[simp] theorem pl92 : placesOf Tryz.prog 92 = none := by kernel_rfl
@[simp] theorem ty93 : tyOf Tryz.prog 93 = some (false, 1) := by kernel_rfl
@[simp] theorem zav93 : zAV Tryz.prog 93 [Value.pointer none] = [.lit (Value.pointer none)] := by kernel_rfl
@[simp] theorem z93 : zeroOf Tryz.prog 93 = some [Value.pointer none] := by kernel_rfl
@[simp] theorem pl93 : placesOf Tryz.prog 93 = none := by kernel_rfl
@[simp] theorem pt93 : ptT Tryz.prog 93 = some 95 := by kernel_rfl
@[simp] theorem ty94 : tyOf Tryz.prog 94 = some (true, 2) := by kernel_rfl
@[simp] theorem zav94 : zAV Tryz.prog 94 [Value.string { data := #[] }, Value.int IntKind.i64 0] = [.lit (Value.string { data := #[] }), .lit (Value.int IntKind.i64 0)] := by kernel_rfl
@[simp] theorem z94 : zeroOf Tryz.prog 94 = some [Value.string { data := #[] }, Value.int IntKind.i64 0] := by kernel_rfl
@[simp] theorem fld94_0 : fldOf Tryz.prog 94 0 = some (0, false, 1) := by kernel_rfl
@[simp] theorem fld94_1 : fldOf Tryz.prog 94 1 = some (1, false, 1) := by kernel_rfl
@[simp] theorem pl94 : placesOf Tryz.prog 94 = some [(0, 1), (1, 1)] := by kernel_rfl
@[simp] theorem ty95 : tyOf Tryz.prog 95 = some (true, 2) := by kernel_rfl
@[simp] theorem zav95 : zAV Tryz.prog 95 [Value.string { data := #[] }, Value.int IntKind.i64 0] = [.lit (Value.string { data := #[] }), .lit (Value.int IntKind.i64 0)] := by kernel_rfl
@[simp] theorem z95 : zeroOf Tryz.prog 95 = some [Value.string { data := #[] }, Value.int IntKind.i64 0] := by kernel_rfl
@[simp] theorem fld95_0 : fldOf Tryz.prog 95 0 = some (0, false, 1) := by kernel_rfl
@[simp] theorem fld95_1 : fldOf Tryz.prog 95 1 = some (1, false, 1) := by kernel_rfl
@[simp] theorem pl95 : placesOf Tryz.prog 95 = some [(0, 1), (1, 1)] := by kernel_rfl
@[simp] theorem ty96 : tyOf Tryz.prog 96 = some (false, 1) := by kernel_rfl
@[simp] theorem zav96 : zAV Tryz.prog 96 [Value.tuple #[Value.agg #[Value.slice none 0 0, Value.bool false, Value.slice none 0 0, Value.slice none 0 0], Value.bool false]] = [.lit (Value.tuple #[Value.agg #[Value.slice none 0 0, Value.bool false, Value.slice none 0 0, Value.slice none 0 0], Value.bool false])] := by kernel_rfl
@[simp] theorem z96 : zeroOf Tryz.prog 96 = some [Value.tuple #[Value.agg #[Value.slice none 0 0, Value.bool false, Value.slice none 0 0, Value.slice none 0 0], Value.bool false]] := by kernel_rfl
@[simp] theorem pl96 : placesOf Tryz.prog 96 = none := by kernel_rfl
@[simp] theorem ty97 : tyOf Tryz.prog 97 = some (false, 1) := by kernel_rfl
@[simp] theorem pl97 : placesOf Tryz.prog 97 = none := by kernel_rfl
@[simp] theorem ty98 : tyOf Tryz.prog 98 = some (false, 1) := by kernel_rfl
@[simp] theorem pl98 : placesOf Tryz.prog 98 = none := by kernel_rfl
@[simp] theorem ty99 : tyOf Tryz.prog 99 = some (false, 1) := by kernel_rfl
@[simp] theorem pl99 : placesOf Tryz.prog 99 = none := by kernel_rfl
@[simp] theorem ty100 : tyOf Tryz.prog 100 = some (false, 1) := by kernel_rfl
@[simp] theorem pl100 : placesOf Tryz.prog 100 = none := by kernel_rfl
@[simp] theorem ty101 : tyOf Tryz.prog 101 = some (false, 1) := by kernel_rfl
@[simp] theorem zav101 : zAV Tryz.prog 101 [Value.int IntKind.u64 0] = [.lit (Value.int IntKind.u64 0)] := by kernel_rfl
@[simp] theorem z101 : zeroOf Tryz.prog 101 = some [Value.int IntKind.u64 0] := by kernel_rfl
@[simp] theorem pl101 : placesOf Tryz.prog 101 = none := by kernel_rfl
@[simp] theorem in101 : intT Tryz.prog 101 = some .u64 := by kernel_rfl
@[simp] theorem un101 : Tryz.prog.underlying 101 = some (.int .u64) := by kernel_rfl
@[simp] theorem ty102 : tyOf Tryz.prog 102 = some (false, 1) := by kernel_rfl
@[simp] theorem zav102 : zAV Tryz.prog 102 [Value.pointer none] = [.lit (Value.pointer none)] := by kernel_rfl
@[simp] theorem z102 : zeroOf Tryz.prog 102 = some [Value.pointer none] := by kernel_rfl
@[simp] theorem pl102 : placesOf Tryz.prog 102 = none := by kernel_rfl
@[simp] theorem pt102 : ptT Tryz.prog 102 = some 104 := by kernel_rfl
@[simp] theorem ty103 : tyOf Tryz.prog 103 = some (true, 3) := by kernel_rfl
@[simp] theorem zav103 : zAV Tryz.prog 103 [Value.string { data := #[] }, Value.int IntKind.i64 0, Value.bool false] = [.lit (Value.string { data := #[] }), .lit (Value.int IntKind.i64 0), .lit (Value.bool false)] := by kernel_rfl
@[simp] theorem z103 : zeroOf Tryz.prog 103 = some [Value.string { data := #[] }, Value.int IntKind.i64 0, Value.bool false] := by kernel_rfl
@[simp] theorem fld103_0 : fldOf Tryz.prog 103 0 = some (0, false, 1) := by kernel_rfl
@[simp] theorem fld103_1 : fldOf Tryz.prog 103 1 = some (1, false, 1) := by kernel_rfl
@[simp] theorem fld103_2 : fldOf Tryz.prog 103 2 = some (2, false, 1) := by kernel_rfl
@[simp] theorem pl103 : placesOf Tryz.prog 103 = some [(0, 1), (1, 1), (2, 1)] := by kernel_rfl
@[simp] theorem ty104 : tyOf Tryz.prog 104 = some (true, 3) := by kernel_rfl
@[simp] theorem zav104 : zAV Tryz.prog 104 [Value.string { data := #[] }, Value.int IntKind.i64 0, Value.bool false] = [.lit (Value.string { data := #[] }), .lit (Value.int IntKind.i64 0), .lit (Value.bool false)] := by kernel_rfl
@[simp] theorem z104 : zeroOf Tryz.prog 104 = some [Value.string { data := #[] }, Value.int IntKind.i64 0, Value.bool false] := by kernel_rfl
@[simp] theorem fld104_0 : fldOf Tryz.prog 104 0 = some (0, false, 1) := by kernel_rfl
@[simp] theorem fld104_1 : fldOf Tryz.prog 104 1 = some (1, false, 1) := by kernel_rfl
@[simp] theorem fld104_2 : fldOf Tryz.prog 104 2 = some (2, false, 1) := by kernel_rfl
@[simp] theorem pl104 : placesOf Tryz.prog 104 = some [(0, 1), (1, 1), (2, 1)] := by kernel_rfl
@[simp] theorem ty105 : tyOf Tryz.prog 105 = some (false, 1) := by kernel_rfl
@[simp] theorem pl105 : placesOf Tryz.prog 105 = none := by kernel_rfl
@[simp] theorem ty106 : tyOf Tryz.prog 106 = some (false, 1) := by kernel_rfl
@[simp] theorem pl106 : placesOf Tryz.prog 106 = none := by kernel_rfl
@[simp] theorem ty107 : tyOf Tryz.prog 107 = some (false, 1) := by kernel_rfl
@[simp] theorem pl107 : placesOf Tryz.prog 107 = none := by kernel_rfl
@[simp] theorem ty108 : tyOf Tryz.prog 108 = some (false, 1) := by kernel_rfl
@[simp] theorem pl108 : placesOf Tryz.prog 108 = none := by kernel_rfl
@[simp] theorem ty109 : tyOf Tryz.prog 109 = some (false, 1) := by kernel_rfl
@[simp] theorem pl109 : placesOf Tryz.prog 109 = none := by kernel_rfl
@[simp] theorem ty110 : tyOf Tryz.prog 110 = some (false, 1) := by kernel_rfl
@[simp] theorem pl110 : placesOf Tryz.prog 110 = none := by kernel_rfl
@[simp] theorem ty111 : tyOf Tryz.prog 111 = some (false, 1) := by kernel_rfl
@[simp] theorem pl111 : placesOf Tryz.prog 111 = none := by kernel_rfl
@[simp] theorem ty112 : tyOf Tryz.prog 112 = some (false, 1) := by kernel_rfl
@[simp] theorem pl112 : placesOf Tryz.prog 112 = none := by kernel_rfl
@[simp] theorem ty113 : tyOf Tryz.prog 113 = some (true, 2) := by kernel_rfl
@[simp] theorem zav113 : zAV Tryz.prog 113 [Value.bool false, Value.slice none 0 0] = [.lit (Value.bool false), .nl 1] := by kernel_rfl
@[simp] theorem z113 : zeroOf Tryz.prog 113 = some [Value.bool false, Value.slice none 0 0] := by kernel_rfl
@[simp] theorem fld113_0 : fldOf Tryz.prog 113 0 = some (0, false, 1) := by kernel_rfl
@[simp] theorem fld113_1 : fldOf Tryz.prog 113 1 = some (1, false, 1) := by kernel_rfl
@[simp] theorem pl113 : placesOf Tryz.prog 113 = some [(0, 1), (1, 1)] := by kernel_rfl
@[simp] theorem ty114 : tyOf Tryz.prog 114 = some (true, 2) := by kernel_rfl
@[simp] theorem zav114 : zAV Tryz.prog 114 [Value.bool false, Value.slice none 0 0] = [.lit (Value.bool false), .nl 1] := by kernel_rfl
@[simp] theorem z114 : zeroOf Tryz.prog 114 = some [Value.bool false, Value.slice none 0 0] := by kernel_rfl
@[simp] theorem fld114_0 : fldOf Tryz.prog 114 0 = some (0, false, 1) := by kernel_rfl
@[simp] theorem fld114_1 : fldOf Tryz.prog 114 1 = some (1, false, 1) := by kernel_rfl
@[simp] theorem pl114 : placesOf Tryz.prog 114 = some [(0, 1), (1, 1)] := by kernel_rfl
@[simp] theorem ty115 : tyOf Tryz.prog 115 = some (false, 1) := by kernel_rfl
@[simp] theorem pl115 : placesOf Tryz.prog 115 = none := by kernel_rfl
@[simp] theorem ty116 : tyOf Tryz.prog 116 = some (false, 1) := by kernel_rfl
@[simp] theorem pl116 : placesOf Tryz.prog 116 = none := by kernel_rfl
@[simp] theorem ty117 : tyOf Tryz.prog 117 = some (false, 1) := by kernel_rfl
@[simp] theorem pl117 : placesOf Tryz.prog 117 = none := by kernel_rfl
@[simp] theorem ty118 : tyOf Tryz.prog 118 = some (false, 1) := by kernel_rfl
@[simp] theorem pl118 : placesOf Tryz.prog 118 = none := by kernel_rfl
@[simp] theorem ty119 : tyOf Tryz.prog 119 = some (false, 1) := by kernel_rfl
@[simp] theorem pl119 : placesOf Tryz.prog 119 = none := by kernel_rfl
@[simp] theorem ty120 : tyOf Tryz.prog 120 = some (false, 1) := by kernel_rfl
@[simp] theorem pl120 : placesOf Tryz.prog 120 = none := by kernel_rfl
@[simp] theorem ty121 : tyOf Tryz.prog 121 = some (false, 1) := by kernel_rfl
@[simp] theorem pl121 : placesOf Tryz.prog 121 = none := by kernel_rfl
@[simp] theorem ty122 : tyOf Tryz.prog 122 = some (false, 1) := by kernel_rfl
@[simp] theorem pl122 : placesOf Tryz.prog 122 = none := by kernel_rfl
@[simp] theorem ty123 : tyOf Tryz.prog 123 = some (false, 1) := by kernel_rfl
@[simp] theorem pl123 : placesOf Tryz.prog 123 = none := by kernel_rfl
@[simp] theorem ty124 : tyOf Tryz.prog 124 = some (false, 1) := by kernel_rfl
@[simp] theorem zav124 : zAV Tryz.prog 124 [Value.pointer none] = [.lit (Value.pointer none)] := by kernel_rfl
@[simp] theorem z124 : zeroOf Tryz.prog 124 = some [Value.pointer none] := by kernel_rfl
@[simp] theorem pl124 : placesOf Tryz.prog 124 = none := by kernel_rfl
@[simp] theorem pt124 : ptT Tryz.prog 124 = some 5 := by kernel_rfl
@[simp] theorem ty125 : tyOf Tryz.prog 125 = some (false, 1) := by kernel_rfl
@[simp] theorem pl125 : placesOf Tryz.prog 125 = none := by kernel_rfl
@[simp] theorem ty126 : tyOf Tryz.prog 126 = some (false, 1) := by kernel_rfl
@[simp] theorem pl126 : placesOf Tryz.prog 126 = none := by kernel_rfl
@[simp] theorem ty127 : tyOf Tryz.prog 127 = some (false, 1) := by kernel_rfl
@[simp] theorem zav127 : zAV Tryz.prog 127 [Value.tuple #[Value.string { data := #[] }, Value.bool false]] = [.lit (Value.tuple #[Value.string { data := #[] }, Value.bool false])] := by kernel_rfl
@[simp] theorem z127 : zeroOf Tryz.prog 127 = some [Value.tuple #[Value.string { data := #[] }, Value.bool false]] := by kernel_rfl
@[simp] theorem pl127 : placesOf Tryz.prog 127 = none := by kernel_rfl
@[simp] theorem ty128 : tyOf Tryz.prog 128 = some (false, 1) := by kernel_rfl
@[simp] theorem pl128 : placesOf Tryz.prog 128 = none := by kernel_rfl
@[simp] theorem ty129 : tyOf Tryz.prog 129 = some (false, 1) := by kernel_rfl
@[simp] theorem pl129 : placesOf Tryz.prog 129 = none := by kernel_rfl
@[simp] theorem ty130 : tyOf Tryz.prog 130 = some (false, 1) := by kernel_rfl
@[simp] theorem zav130 : zAV Tryz.prog 130 [Value.tuple #[Value.int IntKind.i64 0, Value.bool false]] = [.lit (Value.tuple #[Value.int IntKind.i64 0, Value.bool false])] := by kernel_rfl
@[simp] theorem z130 : zeroOf Tryz.prog 130 = some [Value.tuple #[Value.int IntKind.i64 0, Value.bool false]] := by kernel_rfl
@[simp] theorem pl130 : placesOf Tryz.prog 130 = none := by kernel_rfl
@[simp] theorem ty131 : tyOf Tryz.prog 131 = some (false, 1) := by kernel_rfl
@[simp] theorem pl131 : placesOf Tryz.prog 131 = none := by kernel_rfl
@[simp] theorem ty132 : tyOf Tryz.prog 132 = some (false, 1) := by kernel_rfl
@[simp] theorem pl132 : placesOf Tryz.prog 132 = none := by kernel_rfl
@[simp] theorem ty133 : tyOf Tryz.prog 133 = some (false, 1) := by kernel_rfl
@[simp] theorem zav133 : zAV Tryz.prog 133 [Value.tuple #[Value.slice none 0 0, Value.slice none 0 0, Value.int IntKind.i64 0]] = [.lit (Value.tuple #[Value.slice none 0 0, Value.slice none 0 0, Value.int IntKind.i64 0])] := by kernel_rfl
@[simp] theorem z133 : zeroOf Tryz.prog 133 = some [Value.tuple #[Value.slice none 0 0, Value.slice none 0 0, Value.int IntKind.i64 0]] := by kernel_rfl
@[simp] theorem pl133 : placesOf Tryz.prog 133 = none := by kernel_rfl
@[simp] theorem ty134 : tyOf Tryz.prog 134 = some (false, 1) := by kernel_rfl
@[simp] theorem pl134 : placesOf Tryz.prog 134 = none := by kernel_rfl
@[simp] theorem ty135 : tyOf Tryz.prog 135 = some (false, 1) := by kernel_rfl
@[simp] theorem zav135 : zAV Tryz.prog 135 [Value.int IntKind.u32 0] = [.lit (Value.int IntKind.u32 0)] := by kernel_rfl
@[simp] theorem z135 : zeroOf Tryz.prog 135 = some [Value.int IntKind.u32 0] := by kernel_rfl
@[simp] theorem pl135 : placesOf Tryz.prog 135 = none := by kernel_rfl
@[simp] theorem in135 : intT Tryz.prog 135 = some .u32 := by kernel_rfl
@[simp] theorem un135 : Tryz.prog.underlying 135 = some (.int .u32) := by kernel_rfl
@[simp] theorem ty136 : tyOf Tryz.prog 136 = some (false, 1) := by kernel_rfl
@[simp] theorem zav136 : zAV Tryz.prog 136 [Value.tuple #[Value.int IntKind.u64 0, Value.bool false]] = [.lit (Value.tuple #[Value.int IntKind.u64 0, Value.bool false])] := by kernel_rfl
@[simp] theorem z136 : zeroOf Tryz.prog 136 = some [Value.tuple #[Value.int IntKind.u64 0, Value.bool false]] := by kernel_rfl
@[simp] theorem pl136 : placesOf Tryz.prog 136 = none := by kernel_rfl
@[simp] theorem ty137 : tyOf Tryz.prog 137 = some (false, 1) := by kernel_rfl
@[simp] theorem pl137 : placesOf Tryz.prog 137 = none := by kernel_rfl
@[simp] theorem ty138 : tyOf Tryz.prog 138 = some (false, 1) := by kernel_rfl
@[simp] theorem zav138 : zAV Tryz.prog 138 [Value.int IntKind.u64 0] = [.lit (Value.int IntKind.u64 0)] := by kernel_rfl
@[simp] theorem z138 : zeroOf Tryz.prog 138 = some [Value.int IntKind.u64 0] := by kernel_rfl
@[simp] theorem pl138 : placesOf Tryz.prog 138 = none := by kernel_rfl
@[simp] theorem in138 : intT Tryz.prog 138 = some .u64 := by kernel_rfl
@[simp] theorem un138 : Tryz.prog.underlying 138 = some (.int .u64) := by kernel_rfl
@[simp] theorem ty139 : tyOf Tryz.prog 139 = some (false, 1) := by kernel_rfl
@[simp] theorem pl139 : placesOf Tryz.prog 139 = none := by kernel_rfl
@[simp] theorem ty140 : tyOf Tryz.prog 140 = some (false, 1) := by kernel_rfl
@[simp] theorem zav140 : zAV Tryz.prog 140 [Value.tuple #[Value.agg #[Value.bool false, Value.slice none 0 0], Value.agg #[Value.bool false, Value.slice none 0 0]]] = [.lit (Value.tuple #[Value.agg #[Value.bool false, Value.slice none 0 0], Value.agg #[Value.bool false, Value.slice none 0 0]])] := by kernel_rfl
@[simp] theorem z140 : zeroOf Tryz.prog 140 = some [Value.tuple #[Value.agg #[Value.bool false, Value.slice none 0 0], Value.agg #[Value.bool false, Value.slice none 0 0]]] := by kernel_rfl
@[simp] theorem pl140 : placesOf Tryz.prog 140 = none := by kernel_rfl
@[simp] theorem ty141 : tyOf Tryz.prog 141 = some (false, 1) := by kernel_rfl
@[simp] theorem pl141 : placesOf Tryz.prog 141 = none := by kernel_rfl
@[simp] theorem ty142 : tyOf Tryz.prog 142 = some (false, 1) := by kernel_rfl
@[simp] theorem pl142 : placesOf Tryz.prog 142 = none := by kernel_rfl
@[simp] theorem ty143 : tyOf Tryz.prog 143 = some (false, 1) := by kernel_rfl
@[simp] theorem pl143 : placesOf Tryz.prog 143 = none := by kernel_rfl
@[simp] theorem ty144 : tyOf Tryz.prog 144 = some (false, 1) := by kernel_rfl
@[simp] theorem pl144 : placesOf Tryz.prog 144 = none := by kernel_rfl
@[simp] theorem ty145 : tyOf Tryz.prog 145 = some (false, 1) := by kernel_rfl
@[simp] theorem pl145 : placesOf Tryz.prog 145 = none := by kernel_rfl
@[simp] theorem ty146 : tyOf Tryz.prog 146 = some (false, 1) := by kernel_rfl
@[simp] theorem zav146 : zAV Tryz.prog 146 [Value.tuple #[Value.slice none 0 0, Value.int IntKind.i64 0]] = [.lit (Value.tuple #[Value.slice none 0 0, Value.int IntKind.i64 0])] := by kernel_rfl
@[simp] theorem z146 : zeroOf Tryz.prog 146 = some [Value.tuple #[Value.slice none 0 0, Value.int IntKind.i64 0]] := by kernel_rfl
@[simp] theorem pl146 : placesOf Tryz.prog 146 = none := by kernel_rfl
@[simp] theorem ty147 : tyOf Tryz.prog 147 = some (false, 1) := by kernel_rfl
@[simp] theorem pl147 : placesOf Tryz.prog 147 = none := by kernel_rfl
@[simp] theorem ty148 : tyOf Tryz.prog 148 = some (false, 1) := by kernel_rfl
@[simp] theorem pl148 : placesOf Tryz.prog 148 = none := by kernel_rfl
@[simp] theorem ty149 : tyOf Tryz.prog 149 = some (false, 1) := by kernel_rfl
@[simp] theorem pl149 : placesOf Tryz.prog 149 = none := by kernel_rfl
@[simp] theorem ty150 : tyOf Tryz.prog 150 = some (false, 1) := by kernel_rfl
@[simp] theorem pl150 : placesOf Tryz.prog 150 = none := by kernel_rfl
@[simp] theorem ty151 : tyOf Tryz.prog 151 = some (false, 1) := by kernel_rfl
@[simp] theorem pl151 : placesOf Tryz.prog 151 = none := by kernel_rfl
@[simp] theorem ty152 : tyOf Tryz.prog 152 = some (false, 1) := by kernel_rfl
@[simp] theorem zav152 : zAV Tryz.prog 152 [Value.pointer none] = [.lit (Value.pointer none)] := by kernel_rfl
@[simp] theorem z152 : zeroOf Tryz.prog 152 = some [Value.pointer none] := by kernel_rfl
@[simp] theorem pl152 : placesOf Tryz.prog 152 = none := by kernel_rfl
@[simp] theorem ty153 : tyOf Tryz.prog 153 = some (false, 1) := by kernel_rfl
@[simp] theorem pl153 : placesOf Tryz.prog 153 = none := by kernel_rfl
@[simp] theorem ty154 : tyOf Tryz.prog 154 = some (false, 1) := by kernel_rfl
@[simp] theorem pl154 : placesOf Tryz.prog 154 = none := by kernel_rfl
@[simp] theorem ty155 : tyOf Tryz.prog 155 = some (false, 1) := by kernel_rfl
@[simp] theorem zav155 : zAV Tryz.prog 155 [Value.slice none 0 0] = [.nl 1] := by kernel_rfl
@[simp] theorem z155 : zeroOf Tryz.prog 155 = some [Value.slice none 0 0] := by kernel_rfl
@[simp] theorem pl155 : placesOf Tryz.prog 155 = none := by kernel_rfl
@[simp] theorem el155 : elOf Tryz.prog 155 = some (9, false, 1, 16, [Value.string { data := #[] }]) := by kernel_rfl
@[simp] theorem ty156 : tyOf Tryz.prog 156 = some (false, 1) := by kernel_rfl
@[simp] theorem pl156 : placesOf Tryz.prog 156 = none := by kernel_rfl
@[simp] theorem ty157 : tyOf Tryz.prog 157 = some (false, 1) := by kernel_rfl
@[simp] theorem pl157 : placesOf Tryz.prog 157 = none := by kernel_rfl
@[simp] theorem ty158 : tyOf Tryz.prog 158 = some (false, 1) := by kernel_rfl
@[simp] theorem pl158 : placesOf Tryz.prog 158 = none := by kernel_rfl
@[simp] theorem ty159 : tyOf Tryz.prog 159 = some (false, 1) := by kernel_rfl
@[simp] theorem pl159 : placesOf Tryz.prog 159 = none := by kernel_rfl
@[simp] theorem ty160 : tyOf Tryz.prog 160 = some (false, 1) := by kernel_rfl
@[simp] theorem pl160 : placesOf Tryz.prog 160 = none := by kernel_rfl
@[simp] theorem ty161 : tyOf Tryz.prog 161 = some (false, 1) := by kernel_rfl
@[simp] theorem pl161 : placesOf Tryz.prog 161 = none := by kernel_rfl
@[simp] theorem ty162 : tyOf Tryz.prog 162 = some (false, 1) := by kernel_rfl
@[simp] theorem pl162 : placesOf Tryz.prog 162 = none := by kernel_rfl
@[simp] theorem ty163 : tyOf Tryz.prog 163 = some (false, 1) := by kernel_rfl
@[simp] theorem pl163 : placesOf Tryz.prog 163 = none := by kernel_rfl
@[simp] theorem ty164 : tyOf Tryz.prog 164 = some (false, 1) := by kernel_rfl
@[simp] theorem pl164 : placesOf Tryz.prog 164 = none := by kernel_rfl
@[simp] theorem ty165 : tyOf Tryz.prog 165 = some (true, 24) := by kernel_rfl
@[simp] theorem zav165 : zAV Tryz.prog 165 [Value.int IntKind.u8 0, Value.int IntKind.u8 0, Value.int IntKind.u8 0, Value.int IntKind.u8 0, Value.int IntKind.u8 0, Value.int IntKind.u8 0, Value.int IntKind.u8 0, Value.int IntKind.u8 0, Value.int IntKind.u8 0, Value.int IntKind.u8 0, Value.int IntKind.u8 0, Value.int IntKind.u8 0, Value.int IntKind.u8 0, Value.int IntKind.u8 0, Value.int IntKind.u8 0, Value.int IntKind.u8 0, Value.int IntKind.u8 0, Value.int IntKind.u8 0, Value.int IntKind.u8 0, Value.int IntKind.u8 0, Value.int IntKind.u8 0, Value.int IntKind.u8 0, Value.int IntKind.u8 0, Value.int IntKind.u8 0] = [.lit (Value.int IntKind.u8 0), .lit (Value.int IntKind.u8 0), .lit (Value.int IntKind.u8 0), .lit (Value.int IntKind.u8 0), .lit (Value.int IntKind.u8 0), .lit (Value.int IntKind.u8 0), .lit (Value.int IntKind.u8 0), .lit (Value.int IntKind.u8 0), .lit (Value.int IntKind.u8 0), .lit (Value.int IntKind.u8 0), .lit (Value.int IntKind.u8 0), .lit (Value.int IntKind.u8 0), .lit (Value.int IntKind.u8 0), .lit (Value.int IntKind.u8 0), .lit (Value.int IntKind.u8 0), .lit (Value.int IntKind.u8 0), .lit (Value.int IntKind.u8 0), .lit (Value.int IntKind.u8 0), .lit (Value.int IntKind.u8 0), .lit (Value.int IntKind.u8 0), .lit (Value.int IntKind.u8 0), .lit (Value.int IntKind.u8 0), .lit (Value.int IntKind.u8 0), .lit (Value.int IntKind.u8 0)] := by kernel_rfl
@[simp] theorem z165 : zeroOf Tryz.prog 165 = some [Value.int IntKind.u8 0, Value.int IntKind.u8 0, Value.int IntKind.u8 0, Value.int IntKind.u8 0, Value.int IntKind.u8 0, Value.int IntKind.u8 0, Value.int IntKind.u8 0, Value.int IntKind.u8 0, Value.int IntKind.u8 0, Value.int IntKind.u8 0, Value.int IntKind.u8 0, Value.int IntKind.u8 0, Value.int IntKind.u8 0, Value.int IntKind.u8 0, Value.int IntKind.u8 0, Value.int IntKind.u8 0, Value.int IntKind.u8 0, Value.int IntKind.u8 0, Value.int IntKind.u8 0, Value.int IntKind.u8 0, Value.int IntKind.u8 0, Value.int IntKind.u8 0, Value.int IntKind.u8 0, Value.int IntKind.u8 0] := by kernel_rfl
@[simp] theorem pl165 : placesOf Tryz.prog 165 = none := by kernel_rfl
@[simp] theorem ar165 : arOf Tryz.prog 165 = some (24, false, 1) := by kernel_rfl
@[simp] theorem nel165 : elOf Tryz.prog 165 = none := by kernel_rfl
@[simp] theorem ty166 : tyOf Tryz.prog 166 = some (false, 1) := by kernel_rfl
@[simp] theorem pl166 : placesOf Tryz.prog 166 = none := by kernel_rfl
@[simp] theorem ty167 : tyOf Tryz.prog 167 = some (false, 1) := by kernel_rfl
@[simp] theorem pl167 : placesOf Tryz.prog 167 = none := by kernel_rfl
@[simp] theorem ty168 : tyOf Tryz.prog 168 = some (false, 1) := by kernel_rfl
@[simp] theorem zav168 : zAV Tryz.prog 168 [Value.tuple #[Value.slice none 0 0, Value.string { data := #[] }]] = [.lit (Value.tuple #[Value.slice none 0 0, Value.string { data := #[] }])] := by kernel_rfl
@[simp] theorem z168 : zeroOf Tryz.prog 168 = some [Value.tuple #[Value.slice none 0 0, Value.string { data := #[] }]] := by kernel_rfl
@[simp] theorem pl168 : placesOf Tryz.prog 168 = none := by kernel_rfl
@[simp] theorem ty169 : tyOf Tryz.prog 169 = some (false, 1) := by kernel_rfl
@[simp] theorem pl169 : placesOf Tryz.prog 169 = none := by kernel_rfl
@[simp] theorem ty170 : tyOf Tryz.prog 170 = some (false, 1) := by kernel_rfl
@[simp] theorem zav170 : zAV Tryz.prog 170 [Value.tuple #[Value.slice none 0 0, Value.slice none 0 0]] = [.lit (Value.tuple #[Value.slice none 0 0, Value.slice none 0 0])] := by kernel_rfl
@[simp] theorem z170 : zeroOf Tryz.prog 170 = some [Value.tuple #[Value.slice none 0 0, Value.slice none 0 0]] := by kernel_rfl
@[simp] theorem pl170 : placesOf Tryz.prog 170 = none := by kernel_rfl
@[simp] theorem ty171 : tyOf Tryz.prog 171 = some (false, 1) := by kernel_rfl
@[simp] theorem pl171 : placesOf Tryz.prog 171 = none := by kernel_rfl
@[simp] theorem ty172 : tyOf Tryz.prog 172 = some (false, 1) := by kernel_rfl
@[simp] theorem pl172 : placesOf Tryz.prog 172 = none := by kernel_rfl
@[simp] theorem ty173 : tyOf Tryz.prog 173 = some (false, 1) := by kernel_rfl
@[simp] theorem pl173 : placesOf Tryz.prog 173 = none := by kernel_rfl
@[simp] theorem ty174 : tyOf Tryz.prog 174 = some (false, 1) := by kernel_rfl
@[simp] theorem pl174 : placesOf Tryz.prog 174 = none := by kernel_rfl
@[simp] theorem ty175 : tyOf Tryz.prog 175 = some (false, 1) := by kernel_rfl
@[simp] theorem pl175 : placesOf Tryz.prog 175 = none := by kernel_rfl
@[simp] theorem ty176 : tyOf Tryz.prog 176 = some (false, 1) := by kernel_rfl
@[simp] theorem zav176 : zAV Tryz.prog 176 [Value.tuple #[Value.int IntKind.u64 0, Value.int IntKind.u64 0]] = [.lit (Value.tuple #[Value.int IntKind.u64 0, Value.int IntKind.u64 0])] := by kernel_rfl
@[simp] theorem z176 : zeroOf Tryz.prog 176 = some [Value.tuple #[Value.int IntKind.u64 0, Value.int IntKind.u64 0]] := by kernel_rfl
@[simp] theorem pl176 : placesOf Tryz.prog 176 = none := by kernel_rfl
@[simp] theorem ty177 : tyOf Tryz.prog 177 = some (false, 1) := by kernel_rfl
@[simp] theorem pl177 : placesOf Tryz.prog 177 = none := by kernel_rfl
@[simp] theorem ty178 : tyOf Tryz.prog 178 = some (false, 1) := by kernel_rfl
@[simp] theorem pl178 : placesOf Tryz.prog 178 = none := by kernel_rfl
@[simp] theorem ty179 : tyOf Tryz.prog 179 = some (false, 1) := by kernel_rfl
@[simp] theorem pl179 : placesOf Tryz.prog 179 = none := by kernel_rfl
@[simp] theorem ty180 : tyOf Tryz.prog 180 = some (false, 1) := by kernel_rfl
@[simp] theorem pl180 : placesOf Tryz.prog 180 = none := by kernel_rfl
@[simp] theorem ty181 : tyOf Tryz.prog 181 = some (false, 1) := by kernel_rfl
@[simp] theorem pl181 : placesOf Tryz.prog 181 = none := by kernel_rfl
@[simp] theorem ty182 : tyOf Tryz.prog 182 = some (false, 1) := by kernel_rfl
@[simp] theorem pl182 : placesOf Tryz.prog 182 = none := by kernel_rfl
@[simp] theorem ty183 : tyOf Tryz.prog 183 = some (true, 20) := by kernel_rfl
@[simp] theorem zav183 : zAV Tryz.prog 183 [Value.int IntKind.u64 0, Value.int IntKind.u64 0, Value.int IntKind.u64 0, Value.int IntKind.u64 0, Value.int IntKind.u64 0, Value.int IntKind.u64 0, Value.int IntKind.u64 0, Value.int IntKind.u64 0, Value.int IntKind.u64 0, Value.int IntKind.u64 0, Value.int IntKind.u64 0, Value.int IntKind.u64 0, Value.int IntKind.u64 0, Value.int IntKind.u64 0, Value.int IntKind.u64 0, Value.int IntKind.u64 0, Value.int IntKind.u64 0, Value.int IntKind.u64 0, Value.int IntKind.u64 0, Value.int IntKind.u64 0] = [.lit (Value.int IntKind.u64 0), .lit (Value.int IntKind.u64 0), .lit (Value.int IntKind.u64 0), .lit (Value.int IntKind.u64 0), .lit (Value.int IntKind.u64 0), .lit (Value.int IntKind.u64 0), .lit (Value.int IntKind.u64 0), .lit (Value.int IntKind.u64 0), .lit (Value.int IntKind.u64 0), .lit (Value.int IntKind.u64 0), .lit (Value.int IntKind.u64 0), .lit (Value.int IntKind.u64 0), .lit (Value.int IntKind.u64 0), .lit (Value.int IntKind.u64 0), .lit (Value.int IntKind.u64 0), .lit (Value.int IntKind.u64 0), .lit (Value.int IntKind.u64 0), .lit (Value.int IntKind.u64 0), .lit (Value.int IntKind.u64 0), .lit (Value.int IntKind.u64 0)] := by kernel_rfl
@[simp] theorem z183 : zeroOf Tryz.prog 183 = some [Value.int IntKind.u64 0, Value.int IntKind.u64 0, Value.int IntKind.u64 0, Value.int IntKind.u64 0, Value.int IntKind.u64 0, Value.int IntKind.u64 0, Value.int IntKind.u64 0, Value.int IntKind.u64 0, Value.int IntKind.u64 0, Value.int IntKind.u64 0, Value.int IntKind.u64 0, Value.int IntKind.u64 0, Value.int IntKind.u64 0, Value.int IntKind.u64 0, Value.int IntKind.u64 0, Value.int IntKind.u64 0, Value.int IntKind.u64 0, Value.int IntKind.u64 0, Value.int IntKind.u64 0, Value.int IntKind.u64 0] := by kernel_rfl
@[simp] theorem pl183 : placesOf Tryz.prog 183 = none := by kernel_rfl
@[simp] theorem ar183 : arOf Tryz.prog 183 = some (20, false, 1) := by kernel_rfl
@[simp] theorem nel183 : elOf Tryz.prog 183 = none := by kernel_rfl
@[simp] theorem ty184 : tyOf Tryz.prog 184 = some (true, 65) := by kernel_rfl
@[simp] theorem pl184 : placesOf Tryz.prog 184 = none := by kernel_rfl
@[simp] theorem ar184 : arOf Tryz.prog 184 = some (65, false, 1) := by kernel_rfl
@[simp] theorem nel184 : elOf Tryz.prog 184 = none := by kernel_rfl
@[simp] theorem ty185 : tyOf Tryz.prog 185 = some (false, 1) := by kernel_rfl
@[simp] theorem pl185 : placesOf Tryz.prog 185 = none := by kernel_rfl
@[simp] theorem ty186 : tyOf Tryz.prog 186 = some (false, 1) := by kernel_rfl
@[simp] theorem pl186 : placesOf Tryz.prog 186 = none := by kernel_rfl
@[simp] theorem ty187 : tyOf Tryz.prog 187 = some (false, 1) := by kernel_rfl
@[simp] theorem zav187 : zAV Tryz.prog 187 [Value.tuple #[Value.int IntKind.u32 0, Value.int IntKind.u32 0]] = [.lit (Value.tuple #[Value.int IntKind.u32 0, Value.int IntKind.u32 0])] := by kernel_rfl
@[simp] theorem z187 : zeroOf Tryz.prog 187 = some [Value.tuple #[Value.int IntKind.u32 0, Value.int IntKind.u32 0]] := by kernel_rfl
@[simp] theorem pl187 : placesOf Tryz.prog 187 = none := by kernel_rfl
@[simp] theorem ty188 : tyOf Tryz.prog 188 = some (false, 1) := by kernel_rfl
@[simp] theorem pl188 : placesOf Tryz.prog 188 = none := by kernel_rfl
@[simp] theorem ty189 : tyOf Tryz.prog 189 = some (false, 1) := by kernel_rfl
@[simp] theorem zav189 : zAV Tryz.prog 189 [Value.tuple #[Value.int IntKind.u64 0, Value.int IntKind.u64 0]] = [.lit (Value.tuple #[Value.int IntKind.u64 0, Value.int IntKind.u64 0])] := by kernel_rfl
@[simp] theorem z189 : zeroOf Tryz.prog 189 = some [Value.tuple #[Value.int IntKind.u64 0, Value.int IntKind.u64 0]] := by kernel_rfl
@[simp] theorem pl189 : placesOf Tryz.prog 189 = none := by kernel_rfl
@[simp] theorem ty190 : tyOf Tryz.prog 190 = some (false, 1) := by kernel_rfl
@[simp] theorem pl190 : placesOf Tryz.prog 190 = none := by kernel_rfl
@[simp] theorem ty191 : tyOf Tryz.prog 191 = some (false, 1) := by kernel_rfl
@[simp] theorem zav191 : zAV Tryz.prog 191 [Value.int IntKind.i64 0] = [.lit (Value.int IntKind.i64 0)] := by kernel_rfl
@[simp] theorem z191 : zeroOf Tryz.prog 191 = some [Value.int IntKind.i64 0] := by kernel_rfl
@[simp] theorem pl191 : placesOf Tryz.prog 191 = none := by kernel_rfl
@[simp] theorem in191 : intT Tryz.prog 191 = some .i64 := by kernel_rfl
@[simp] theorem un191 : Tryz.prog.underlying 191 = some (.int .i64) := by kernel_rfl
@[simp] theorem ty192 : tyOf Tryz.prog 192 = some (false, 1) := by kernel_rfl
@[simp] theorem zav192 : zAV Tryz.prog 192 [Value.tuple #[Value.int IntKind.i64 0, Value.nilIface]] = [.lit (Value.tuple #[Value.int IntKind.i64 0, Value.nilIface])] := by kernel_rfl
@[simp] theorem z192 : zeroOf Tryz.prog 192 = some [Value.tuple #[Value.int IntKind.i64 0, Value.nilIface]] := by kernel_rfl
@[simp] theorem pl192 : placesOf Tryz.prog 192 = none := by kernel_rfl
@[simp] theorem ty193 : tyOf Tryz.prog 193 = some (false, 1) := by kernel_rfl
@[simp] theorem pl193 : placesOf Tryz.prog 193 = none := by kernel_rfl
@[simp] theorem ty194 : tyOf Tryz.prog 194 = some (false, 1) := by kernel_rfl
@[simp] theorem zav194 : zAV Tryz.prog 194 [Value.pointer none] = [.lit (Value.pointer none)] := by kernel_rfl
@[simp] theorem z194 : zeroOf Tryz.prog 194 = some [Value.pointer none] := by kernel_rfl
@[simp] theorem pl194 : placesOf Tryz.prog 194 = none := by kernel_rfl
@[simp] theorem pt194 : ptT Tryz.prog 194 = some 202 := by kernel_rfl
@[simp] theorem ty195 : tyOf Tryz.prog 195 = some (false, 1) := by kernel_rfl
@[simp] theorem pl195 : placesOf Tryz.prog 195 = none := by kernel_rfl
@[simp] theorem ty196 : tyOf Tryz.prog 196 = some (false, 1) := by kernel_rfl
@[simp] theorem pl196 : placesOf Tryz.prog 196 = none := by kernel_rfl
@[simp] theorem ty197 : tyOf Tryz.prog 197 = some (false, 1) := by kernel_rfl
@[simp] theorem pl197 : placesOf Tryz.prog 197 = none := by kernel_rfl
@[simp] theorem ty198 : tyOf Tryz.prog 198 = some (false, 1) := by kernel_rfl
@[simp] theorem zav198 : zAV Tryz.prog 198 [Value.tuple #[Value.int IntKind.u64 0, Value.nilIface]] = [.lit (Value.tuple #[Value.int IntKind.u64 0, Value.nilIface])] := by kernel_rfl
@[simp] theorem z198 : zeroOf Tryz.prog 198 = some [Value.tuple #[Value.int IntKind.u64 0, Value.nilIface]] := by kernel_rfl
@[simp] theorem pl198 : placesOf Tryz.prog 198 = none := by kernel_rfl
@[simp] theorem ty199 : tyOf Tryz.prog 199 = some (false, 1) := by kernel_rfl
@[simp] theorem pl199 : placesOf Tryz.prog 199 = none := by kernel_rfl
@[simp] theorem ty200 : tyOf Tryz.prog 200 = some (false, 1) := by kernel_rfl
@[simp] theorem pl200 : placesOf Tryz.prog 200 = none := by kernel_rfl
@[simp] theorem ty201 : tyOf Tryz.prog 201 = some (true, 3) := by kernel_rfl
@[simp] theorem zav201 : zAV Tryz.prog 201 [Value.string { data := #[] }, Value.string { data := #[] }, Value.nilIface] = [.lit (Value.string { data := #[] }), .lit (Value.string { data := #[] }), .lit (Value.nilIface)] := by kernel_rfl
@[simp] theorem z201 : zeroOf Tryz.prog 201 = some [Value.string { data := #[] }, Value.string { data := #[] }, Value.nilIface] := by kernel_rfl
@[simp] theorem fld201_0 : fldOf Tryz.prog 201 0 = some (0, false, 1) := by kernel_rfl
@[simp] theorem fld201_1 : fldOf Tryz.prog 201 1 = some (1, false, 1) := by kernel_rfl
@[simp] theorem fld201_2 : fldOf Tryz.prog 201 2 = some (2, false, 1) := by kernel_rfl
@[simp] theorem pl201 : placesOf Tryz.prog 201 = some [(0, 1), (1, 1), (2, 1)] := by kernel_rfl
@[simp] theorem ty202 : tyOf Tryz.prog 202 = some (true, 3) := by kernel_rfl
@[simp] theorem zav202 : zAV Tryz.prog 202 [Value.string { data := #[] }, Value.string { data := #[] }, Value.nilIface] = [.lit (Value.string { data := #[] }), .lit (Value.string { data := #[] }), .lit (Value.nilIface)] := by kernel_rfl
@[simp] theorem z202 : zeroOf Tryz.prog 202 = some [Value.string { data := #[] }, Value.string { data := #[] }, Value.nilIface] := by kernel_rfl
@[simp] theorem fld202_0 : fldOf Tryz.prog 202 0 = some (0, false, 1) := by kernel_rfl
@[simp] theorem fld202_1 : fldOf Tryz.prog 202 1 = some (1, false, 1) := by kernel_rfl
@[simp] theorem fld202_2 : fldOf Tryz.prog 202 2 = some (2, false, 1) := by kernel_rfl
@[simp] theorem pl202 : placesOf Tryz.prog 202 = some [(0, 1), (1, 1), (2, 1)] := by kernel_rfl
@[simp] theorem ty203 : tyOf Tryz.prog 203 = some (false, 1) := by kernel_rfl
@[simp] theorem pl203 : placesOf Tryz.prog 203 = none := by kernel_rfl
@[simp] theorem ty204 : tyOf Tryz.prog 204 = some (true, 32) := by kernel_rfl
@[simp] theorem zav204 : zAV Tryz.prog 204 [Value.int IntKind.u8 0, Value.int IntKind.u8 0, Value.int IntKind.u8 0, Value.int IntKind.u8 0, Value.int IntKind.u8 0, Value.int IntKind.u8 0, Value.int IntKind.u8 0, Value.int IntKind.u8 0, Value.int IntKind.u8 0, Value.int IntKind.u8 0, Value.int IntKind.u8 0, Value.int IntKind.u8 0, Value.int IntKind.u8 0, Value.int IntKind.u8 0, Value.int IntKind.u8 0, Value.int IntKind.u8 0, Value.int IntKind.u8 0, Value.int IntKind.u8 0, Value.int IntKind.u8 0, Value.int IntKind.u8 0, Value.int IntKind.u8 0, Value.int IntKind.u8 0, Value.int IntKind.u8 0, Value.int IntKind.u8 0, Value.int IntKind.u8 0, Value.int IntKind.u8 0, Value.int IntKind.u8 0, Value.int IntKind.u8 0, Value.int IntKind.u8 0, Value.int IntKind.u8 0, Value.int IntKind.u8 0, Value.int IntKind.u8 0] = [.lit (Value.int IntKind.u8 0), .lit (Value.int IntKind.u8 0), .lit (Value.int IntKind.u8 0), .lit (Value.int IntKind.u8 0), .lit (Value.int IntKind.u8 0), .lit (Value.int IntKind.u8 0), .lit (Value.int IntKind.u8 0), .lit (Value.int IntKind.u8 0), .lit (Value.int IntKind.u8 0), .lit (Value.int IntKind.u8 0), .lit (Value.int IntKind.u8 0), .lit (Value.int IntKind.u8 0), .lit (Value.int IntKind.u8 0), .lit (Value.int IntKind.u8 0), .lit (Value.int IntKind.u8 0), .lit (Value.int IntKind.u8 0), .lit (Value.int IntKind.u8 0), .lit (Value.int IntKind.u8 0), .lit (Value.int IntKind.u8 0), .lit (Value.int IntKind.u8 0), .lit (Value.int IntKind.u8 0), .lit (Value.int IntKind.u8 0), .lit (Value.int IntKind.u8 0), .lit (Value.int IntKind.u8 0), .lit (Value.int IntKind.u8 0), .lit (Value.int IntKind.u8 0), .lit (Value.int IntKind.u8 0), .lit (Value.int IntKind.u8 0), .lit (Value.int IntKind.u8 0), .lit (Value.int IntKind.u8 0), .lit (Value.int IntKind.u8 0), .lit (Value.int IntKind.u8 0)] := by kernel_rfl
@[simp] theorem z204 : zeroOf Tryz.prog 204 = some [Value.int IntKind.u8 0, Value.int IntKind.u8 0, Value.int IntKind.u8 0, Value.int IntKind.u8 0, Value.int IntKind.u8 0, Value.int IntKind.u8 0, Value.int IntKind.u8 0, Value.int IntKind.u8 0, Value.int IntKind.u8 0, Value.int IntKind.u8 0, Value.int IntKind.u8 0, Value.int IntKind.u8 0, Value.int IntKind.u8 0, Value.int IntKind.u8 0, Value.int IntKind.u8 0, Value.int IntKind.u8 0, Value.int IntKind.u8 0, Value.int IntKind.u8 0, Value.int IntKind.u8 0, Value.int IntKind.u8 0, Value.int IntKind.u8 0, Value.int IntKind.u8 0, Value.int IntKind.u8 0, Value.int IntKind.u8 0, Value.int IntKind.u8 0, Value.int IntKind.u8 0, Value.int IntKind.u8 0, Value.int IntKind.u8 0, Value.int IntKind.u8 0, Value.int IntKind.u8 0, Value.int IntKind.u8 0, Value.int IntKind.u8 0] := by kernel_rfl
@[simp] theorem pl204 : placesOf Tryz.prog 204 = none := by kernel_rfl
@[simp] theorem ar204 : arOf Tryz.prog 204 = some (32, false, 1) := by kernel_rfl
@[simp] theorem nel204 : elOf Tryz.prog 204 = none := by kernel_rfl
@[simp] theorem ty205 : tyOf Tryz.prog 205 = some (true, 64) := by kernel_rfl
@[simp] theorem pl205 : placesOf Tryz.prog 205 = none := by kernel_rfl
@[simp] theorem ar205 : arOf Tryz.prog 205 = some (64, false, 1) := by kernel_rfl
@[simp] theorem nel205 : elOf Tryz.prog 205 = none := by kernel_rfl
@[simp] theorem ty206 : tyOf Tryz.prog 206 = some (false, 1) := by kernel_rfl
@[simp] theorem pl206 : placesOf Tryz.prog 206 = none := by kernel_rfl
@[simp] theorem ty207 : tyOf Tryz.prog 207 = some (false, 1) := by kernel_rfl
@[simp] theorem zav207 : zAV Tryz.prog 207 [Value.pointer none] = [.lit (Value.pointer none)] := by kernel_rfl
@[simp] theorem z207 : zeroOf Tryz.prog 207 = some [Value.pointer none] := by kernel_rfl
@[simp] theorem pl207 : placesOf Tryz.prog 207 = none := by kernel_rfl
@[simp] theorem pt207 : ptT Tryz.prog 207 = some 209 := by kernel_rfl
@[simp] theorem ty208 : tyOf Tryz.prog 208 = some (true, 1) := by kernel_rfl
@[simp] theorem zav208 : zAV Tryz.prog 208 [Value.string { data := #[] }] = [.lit (Value.string { data := #[] })] := by kernel_rfl
@[simp] theorem z208 : zeroOf Tryz.prog 208 = some [Value.string { data := #[] }] := by kernel_rfl
@[simp] theorem fld208_0 : fldOf Tryz.prog 208 0 = some (0, false, 1) := by kernel_rfl
@[simp] theorem pl208 : placesOf Tryz.prog 208 = some [(0, 1)] := by kernel_rfl
@[simp] theorem ty209 : tyOf Tryz.prog 209 = some (true, 1) := by kernel_rfl
@[simp] theorem zav209 : zAV Tryz.prog 209 [Value.string { data := #[] }] = [.lit (Value.string { data := #[] })] := by kernel_rfl
@[simp] theorem z209 : zeroOf Tryz.prog 209 = some [Value.string { data := #[] }] := by kernel_rfl
@[simp] theorem fld209_0 : fldOf Tryz.prog 209 0 = some (0, false, 1) := by kernel_rfl
@[simp] theorem pl209 : placesOf Tryz.prog 209 = some [(0, 1)] := by kernel_rfl
@[simp] theorem ty210 : tyOf Tryz.prog 210 = some (true, 4) := by kernel_rfl
@[simp] theorem zav210 : zAV Tryz.prog 210 [Value.pointer none, Value.pointer none, Value.pointer none, Value.string { data := #[] }] = [.lit (Value.pointer none), .lit (Value.pointer none), .lit (Value.pointer none), .lit (Value.string { data := #[] })] := by kernel_rfl
@[simp] theorem z210 : zeroOf Tryz.prog 210 = some [Value.pointer none, Value.pointer none, Value.pointer none, Value.string { data := #[] }] := by kernel_rfl
@[simp] theorem fld210_0 : fldOf Tryz.prog 210 0 = some (0, false, 1) := by kernel_rfl
@[simp] theorem fld210_1 : fldOf Tryz.prog 210 1 = some (1, false, 1) := by kernel_rfl
@[simp] theorem fld210_2 : fldOf Tryz.prog 210 2 = some (2, false, 1) := by kernel_rfl
@[simp] theorem fld210_3 : fldOf Tryz.prog 210 3 = some (3, false, 1) := by kernel_rfl
@[simp] theorem pl210 : placesOf Tryz.prog 210 = some [(0, 1), (1, 1), (2, 1), (3, 1)] := by kernel_rfl
@[simp] theorem ty211 : tyOf Tryz.prog 211 = some (true, 4) := by kernel_rfl
@[simp] theorem zav211 : zAV Tryz.prog 211 [Value.pointer none, Value.pointer none, Value.pointer none, Value.string { data := #[] }] = [.lit (Value.pointer none), .lit (Value.pointer none), .lit (Value.pointer none), .lit (Value.string { data := #[] })] := by kernel_rfl
@[simp] theorem z211 : zeroOf Tryz.prog 211 = some [Value.pointer none, Value.pointer none, Value.pointer none, Value.string { data := #[] }] := by kernel_rfl
@[simp] theorem fld211_0 : fldOf Tryz.prog 211 0 = some (0, false, 1) := by kernel_rfl
@[simp] theorem fld211_1 : fldOf Tryz.prog 211 1 = some (1, false, 1) := by kernel_rfl
@[simp] theorem fld211_2 : fldOf Tryz.prog 211 2 = some (2, false, 1) := by kernel_rfl
@[simp] theorem fld211_3 : fldOf Tryz.prog 211 3 = some (3, false, 1) := by kernel_rfl
@[simp] theorem pl211 : placesOf Tryz.prog 211 = some [(0, 1), (1, 1), (2, 1), (3, 1)] := by kernel_rfl
@[simp] theorem ty212 : tyOf Tryz.prog 212 = some (true, 0) := by kernel_rfl
@[simp] theorem zav212 : zAV Tryz.prog 212 [] = [] := by kernel_rfl
@[simp] theorem z212 : zeroOf Tryz.prog 212 = some [] := by kernel_rfl
@[simp] theorem pl212 : placesOf Tryz.prog 212 = none := by kernel_rfl
@[simp] theorem ar212 : arOf Tryz.prog 212 = some (0, false, 1) := by kernel_rfl
@[simp] theorem nel212 : elOf Tryz.prog 212 = none := by kernel_rfl
@[simp] theorem ty213 : tyOf Tryz.prog 213 = some (true, 0) := by kernel_rfl
@[simp] theorem zav213 : zAV Tryz.prog 213 [] = [] := by kernel_rfl
@[simp] theorem z213 : zeroOf Tryz.prog 213 = some [] := by kernel_rfl
@[simp] theorem fld213_0 : fldOf Tryz.prog 213 0 = some (0, true, 0) := by kernel_rfl
@[simp] theorem pl213 : placesOf Tryz.prog 213 = some [(0, 0)] := by kernel_rfl
@[simp] theorem ty214 : tyOf Tryz.prog 214 = some (true, 0) := by kernel_rfl
@[simp] theorem zav214 : zAV Tryz.prog 214 [] = [] := by kernel_rfl
@[simp] theorem z214 : zeroOf Tryz.prog 214 = some [] := by kernel_rfl
@[simp] theorem fld214_0 : fldOf Tryz.prog 214 0 = some (0, true, 0) := by kernel_rfl
@[simp] theorem pl214 : placesOf Tryz.prog 214 = some [(0, 0)] := by kernel_rfl
@[simp] theorem ty215 : tyOf Tryz.prog 215 = some (false, 1) := by kernel_rfl
@[simp] theorem zav215 : zAV Tryz.prog 215 [Value.int IntKind.u8 0] = [.lit (Value.int IntKind.u8 0)] := by kernel_rfl
@[simp] theorem z215 : zeroOf Tryz.prog 215 = some [Value.int IntKind.u8 0] := by kernel_rfl
@[simp] theorem pl215 : placesOf Tryz.prog 215 = none := by kernel_rfl
@[simp] theorem in215 : intT Tryz.prog 215 = some .u8 := by kernel_rfl
@[simp] theorem un215 : Tryz.prog.underlying 215 = some (.int .u8) := by kernel_rfl
@[simp] theorem ty216 : tyOf Tryz.prog 216 = some (false, 1) := by kernel_rfl
@[simp] theorem zav216 : zAV Tryz.prog 216 [Value.int IntKind.u8 0] = [.lit (Value.int IntKind.u8 0)] := by kernel_rfl
@[simp] theorem z216 : zeroOf Tryz.prog 216 = some [Value.int IntKind.u8 0] := by kernel_rfl
@[simp] theorem pl216 : placesOf Tryz.prog 216 = none := by kernel_rfl
@[simp] theorem in216 : intT Tryz.prog 216 = some .u8 := by kernel_rfl
@[simp] theorem un216 : Tryz.prog.underlying 216 = some (.int .u8) := by kernel_rfl
@[simp] theorem ty217 : tyOf Tryz.prog 217 = some (false, 1) := by kernel_rfl
@[simp] theorem pl217 : placesOf Tryz.prog 217 = none := by kernel_rfl
@[simp] theorem ty218 : tyOf Tryz.prog 218 = some (false, 1) := by kernel_rfl
@[simp] theorem zav218 : zAV Tryz.prog 218 [Value.int IntKind.i32 0] = [.lit (Value.int IntKind.i32 0)] := by kernel_rfl
@[simp] theorem z218 : zeroOf Tryz.prog 218 = some [Value.int IntKind.i32 0] := by kernel_rfl
@[simp] theorem pl218 : placesOf Tryz.prog 218 = none := by kernel_rfl
@[simp] theorem in218 : intT Tryz.prog 218 = some .i32 := by kernel_rfl
@[simp] theorem un218 : Tryz.prog.underlying 218 = some (.int .i32) := by kernel_rfl
@[simp] theorem ty219 : tyOf Tryz.prog 219 = some (false, 1) := by kernel_rfl
@[simp] theorem zav219 : zAV Tryz.prog 219 [Value.int IntKind.i32 0] = [.lit (Value.int IntKind.i32 0)] := by kernel_rfl
@[simp] theorem z219 : zeroOf Tryz.prog 219 = some [Value.int IntKind.i32 0] := by kernel_rfl
@[simp] theorem pl219 : placesOf Tryz.prog 219 = none := by kernel_rfl
@[simp] theorem in219 : intT Tryz.prog 219 = some .i32 := by kernel_rfl
@[simp] theorem un219 : Tryz.prog.underlying 219 = some (.int .i32) := by kernel_rfl
@[simp] theorem ty220 : tyOf Tryz.prog 220 = some (true, 11) := by kernel_rfl
@[simp] theorem zav220 : zAV Tryz.prog 220 [Value.int IntKind.u64 0, Value.int IntKind.u64 0, Value.int IntKind.u32 0, Value.int IntKind.u8 0, Value.int IntKind.u8 0, Value.int IntKind.u8 0, Value.int IntKind.u8 0, Value.nilFunc, Value.pointer none, Value.int IntKind.i32 0, Value.int IntKind.i32 0] = [.lit (Value.int IntKind.u64 0), .lit (Value.int IntKind.u64 0), .lit (Value.int IntKind.u32 0), .lit (Value.int IntKind.u8 0), .lit (Value.int IntKind.u8 0), .lit (Value.int IntKind.u8 0), .lit (Value.int IntKind.u8 0), .lit (Value.nilFunc), .lit (Value.pointer none), .lit (Value.int IntKind.i32 0), .lit (Value.int IntKind.i32 0)] := by kernel_rfl
@[simp] theorem z220 : zeroOf Tryz.prog 220 = some [Value.int IntKind.u64 0, Value.int IntKind.u64 0, Value.int IntKind.u32 0, Value.int IntKind.u8 0, Value.int IntKind.u8 0, Value.int IntKind.u8 0, Value.int IntKind.u8 0, Value.nilFunc, Value.pointer none, Value.int IntKind.i32 0, Value.int IntKind.i32 0] := by kernel_rfl
@[simp] theorem fld220_0 : fldOf Tryz.prog 220 0 = some (0, false, 1) := by kernel_rfl
@[simp] theorem fld220_1 : fldOf Tryz.prog 220 1 = some (1, false, 1) := by kernel_rfl
@[simp] theorem fld220_2 : fldOf Tryz.prog 220 2 = some (2, false, 1) := by kernel_rfl
@[simp] theorem fld220_3 : fldOf Tryz.prog 220 3 = some (3, false, 1) := by kernel_rfl
@[simp] theorem fld220_4 : fldOf Tryz.prog 220 4 = some (4, false, 1) := by kernel_rfl
@[simp] theorem fld220_5 : fldOf Tryz.prog 220 5 = some (5, false, 1) := by kernel_rfl
@[simp] theorem fld220_6 : fldOf Tryz.prog 220 6 = some (6, false, 1) := by kernel_rfl
@[simp] theorem fld220_7 : fldOf Tryz.prog 220 7 = some (7, false, 1) := by kernel_rfl
@[simp] theorem fld220_8 : fldOf Tryz.prog 220 8 = some (8, false, 1) := by kernel_rfl
@[simp] theorem fld220_9 : fldOf Tryz.prog 220 9 = some (9, false, 1) := by kernel_rfl
@[simp] theorem fld220_10 : fldOf Tryz.prog 220 10 = some (10, false, 1) := by kernel_rfl
@[simp] theorem pl220 : placesOf Tryz.prog 220 = some [(0, 1), (1, 1), (2, 1), (3, 1), (4, 1), (5, 1), (6, 1), (7, 1), (8, 1), (9, 1), (10, 1)] := by kernel_rfl
@[simp] theorem ty221 : tyOf Tryz.prog 221 = some (true, 11) := by kernel_rfl
@[simp] theorem zav221 : zAV Tryz.prog 221 [Value.int IntKind.u64 0, Value.int IntKind.u64 0, Value.int IntKind.u32 0, Value.int IntKind.u8 0, Value.int IntKind.u8 0, Value.int IntKind.u8 0, Value.int IntKind.u8 0, Value.nilFunc, Value.pointer none, Value.int IntKind.i32 0, Value.int IntKind.i32 0] = [.lit (Value.int IntKind.u64 0), .lit (Value.int IntKind.u64 0), .lit (Value.int IntKind.u32 0), .lit (Value.int IntKind.u8 0), .lit (Value.int IntKind.u8 0), .lit (Value.int IntKind.u8 0), .lit (Value.int IntKind.u8 0), .lit (Value.nilFunc), .lit (Value.pointer none), .lit (Value.int IntKind.i32 0), .lit (Value.int IntKind.i32 0)] := by kernel_rfl
@[simp] theorem z221 : zeroOf Tryz.prog 221 = some [Value.int IntKind.u64 0, Value.int IntKind.u64 0, Value.int IntKind.u32 0, Value.int IntKind.u8 0, Value.int IntKind.u8 0, Value.int IntKind.u8 0, Value.int IntKind.u8 0, Value.nilFunc, Value.pointer none, Value.int IntKind.i32 0, Value.int IntKind.i32 0] := by kernel_rfl
@[simp] theorem fld221_0 : fldOf Tryz.prog 221 0 = some (0, false, 1) := by kernel_rfl
@[simp] theorem fld221_1 : fldOf Tryz.prog 221 1 = some (1, false, 1) := by kernel_rfl
@[simp] theorem fld221_2 : fldOf Tryz.prog 221 2 = some (2, false, 1) := by kernel_rfl
@[simp] theorem fld221_3 : fldOf Tryz.prog 221 3 = some (3, false, 1) := by kernel_rfl
@[simp] theorem fld221_4 : fldOf Tryz.prog 221 4 = some (4, false, 1) := by kernel_rfl
@[simp] theorem fld221_5 : fldOf Tryz.prog 221 5 = some (5, false, 1) := by kernel_rfl
@[simp] theorem fld221_6 : fldOf Tryz.prog 221 6 = some (6, false, 1) := by kernel_rfl
@[simp] theorem fld221_7 : fldOf Tryz.prog 221 7 = some (7, false, 1) := by kernel_rfl
@[simp] theorem fld221_8 : fldOf Tryz.prog 221 8 = some (8, false, 1) := by kernel_rfl
@[simp] theorem fld221_9 : fldOf Tryz.prog 221 9 = some (9, false, 1) := by kernel_rfl
@[simp] theorem fld221_10 : fldOf Tryz.prog 221 10 = some (10, false, 1) := by kernel_rfl
@[simp] theorem pl221 : placesOf Tryz.prog 221 = some [(0, 1), (1, 1), (2, 1), (3, 1), (4, 1), (5, 1), (6, 1), (7, 1), (8, 1), (9, 1), (10, 1)] := by kernel_rfl
end Go.Proofs.YthkkmokbjmempaaGreatDoor
