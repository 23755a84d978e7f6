/- Facts on the types of the program. -/
import Derived.Test.YtlpmemelhlnfbaaGreatDoorQ3
import Derived.Test.YtlpmemelhlnfbaaGreatDoorProg
import Derived.KernelRfl
set_option linter.all false
set_option linter.all false
namespace Go.Proofs.YtlpmemelhlnfbaaGreatDoor
open Go.RowKit
@[simp] theorem ty0 : tyOf Tryz.prog 0 = some (false, 1) := by kernel_rfl
@[simp] theorem zav0 : zAV Tryz.prog 0 [Value.tuple #[]] = [.lit (Value.tuple #[])] := by kernel_rfl
@[simp] theorem z0 : zeroOf Tryz.prog 0 = some [Value.tuple #[]] := by kernel_rfl
@[simp] theorem pl0 : placesOf Tryz.prog 0 = none := by kernel_rfl
@[simp] theorem ty1 : tyOf Tryz.prog 1 = some (false, 1) := by kernel_rfl
@[simp] theorem pl1 : placesOf Tryz.prog 1 = none := by kernel_rfl
@[simp] theorem ty2 : tyOf Tryz.prog 2 = some (false, 1) := by kernel_rfl
@[simp] theorem zav2 : zAV Tryz.prog 2 [Value.int IntKind.i64 0] = [.lit (Value.int IntKind.i64 0)] := by kernel_rfl
@[simp] theorem z2 : zeroOf Tryz.prog 2 = some [Value.int IntKind.i64 0] := by kernel_rfl
@[simp] theorem pl2 : placesOf Tryz.prog 2 = none := by kernel_rfl
@[simp] theorem in2 : intT Tryz.prog 2 = some .i64 := by kernel_rfl
@[simp] theorem un2 : Tryz.prog.underlying 2 = some (.int .i64) := by kernel_rfl
@[simp] theorem ty3 : tyOf Tryz.prog 3 = some (false, 1) := by kernel_rfl
@[simp] theorem zav3 : zAV Tryz.prog 3 [Value.int IntKind.i64 0] = [.lit (Value.int IntKind.i64 0)] := by kernel_rfl
@[simp] theorem z3 : zeroOf Tryz.prog 3 = some [Value.int IntKind.i64 0] := by kernel_rfl
@[simp] theorem pl3 : placesOf Tryz.prog 3 = none := by kernel_rfl
@[simp] theorem in3 : intT Tryz.prog 3 = some .i64 := by kernel_rfl
@[simp] theorem un3 : Tryz.prog.underlying 3 = some (.int .i64) := by kernel_rfl
@[simp] theorem ty4 : tyOf Tryz.prog 4 = some (false, 1) := by kernel_rfl
@[simp] theorem zav4 : zAV Tryz.prog 4 [Value.bool false] = [.lit (Value.bool false)] := by kernel_rfl
@[simp] theorem z4 : zeroOf Tryz.prog 4 = some [Value.bool false] := by kernel_rfl
@[simp] theorem pl4 : placesOf Tryz.prog 4 = none := by kernel_rfl
@[simp] theorem bo4 : boolT Tryz.prog 4 = true := by kernel_rfl
@[simp] theorem ty5 : tyOf Tryz.prog 5 = some (false, 1) := by kernel_rfl
@[simp] theorem zav5 : zAV Tryz.prog 5 [Value.int IntKind.u8 0] = [.lit (Value.int IntKind.u8 0)] := by kernel_rfl
@[simp] theorem z5 : zeroOf Tryz.prog 5 = some [Value.int IntKind.u8 0] := by kernel_rfl
@[simp] theorem pl5 : placesOf Tryz.prog 5 = none := by kernel_rfl
@[simp] theorem in5 : intT Tryz.prog 5 = some .u8 := by kernel_rfl
@[simp] theorem un5 : Tryz.prog.underlying 5 = some (.int .u8) := by kernel_rfl
@[simp] theorem ty6 : tyOf Tryz.prog 6 = some (false, 1) := by kernel_rfl
@[simp] theorem zav6 : zAV Tryz.prog 6 [Value.int IntKind.u8 0] = [.lit (Value.int IntKind.u8 0)] := by kernel_rfl
@[simp] theorem z6 : zeroOf Tryz.prog 6 = some [Value.int IntKind.u8 0] := by kernel_rfl
@[simp] theorem pl6 : placesOf Tryz.prog 6 = none := by kernel_rfl
@[simp] theorem in6 : intT Tryz.prog 6 = some .u8 := by kernel_rfl
@[simp] theorem un6 : Tryz.prog.underlying 6 = some (.int .u8) := by kernel_rfl
@[simp] theorem ty7 : tyOf Tryz.prog 7 = some (true, 4) := by kernel_rfl
@[simp] theorem zav7 : zAV Tryz.prog 7 [Value.int IntKind.i64 0, Value.int IntKind.i64 0, Value.bool false, Value.int IntKind.u8 0] = [.lit (Value.int IntKind.i64 0), .lit (Value.int IntKind.i64 0), .lit (Value.bool false), .lit (Value.int IntKind.u8 0)] := by kernel_rfl
@[simp] theorem z7 : zeroOf Tryz.prog 7 = some [Value.int IntKind.i64 0, Value.int IntKind.i64 0, Value.bool false, Value.int IntKind.u8 0] := by kernel_rfl
@[simp] theorem fld7_0 : fldOf Tryz.prog 7 0 = some (0, false, 1) := by kernel_rfl
@[simp] theorem fld7_1 : fldOf Tryz.prog 7 1 = some (1, false, 1) := by kernel_rfl
@[simp] theorem fld7_2 : fldOf Tryz.prog 7 2 = some (2, false, 1) := by kernel_rfl
@[simp] theorem fld7_3 : fldOf Tryz.prog 7 3 = some (3, false, 1) := by kernel_rfl
@[simp] theorem pl7 : placesOf Tryz.prog 7 = some [(0, 1), (1, 1), (2, 1), (3, 1)] := by kernel_rfl
@[simp] theorem ty8 : tyOf Tryz.prog 8 = some (true, 4) := by kernel_rfl
@[simp] theorem zav8 : zAV Tryz.prog 8 [Value.int IntKind.i64 0, Value.int IntKind.i64 0, Value.bool false, Value.int IntKind.u8 0] = [.lit (Value.int IntKind.i64 0), .lit (Value.int IntKind.i64 0), .lit (Value.bool false), .lit (Value.int IntKind.u8 0)] := by kernel_rfl
@[simp] theorem z8 : zeroOf Tryz.prog 8 = some [Value.int IntKind.i64 0, Value.int IntKind.i64 0, Value.bool false, Value.int IntKind.u8 0] := by kernel_rfl
@[simp] theorem fld8_0 : fldOf Tryz.prog 8 0 = some (0, false, 1) := by kernel_rfl
@[simp] theorem fld8_1 : fldOf Tryz.prog 8 1 = some (1, false, 1) := by kernel_rfl
@[simp] theorem fld8_2 : fldOf Tryz.prog 8 2 = some (2, false, 1) := by kernel_rfl
@[simp] theorem fld8_3 : fldOf Tryz.prog 8 3 = some (3, false, 1) := by kernel_rfl
@[simp] theorem pl8 : placesOf Tryz.prog 8 = some [(0, 1), (1, 1), (2, 1), (3, 1)] := by kernel_rfl
@[simp] theorem ty9 : tyOf Tryz.prog 9 = some (false, 1) := by kernel_rfl
@[simp] theorem zav9 : zAV Tryz.prog 9 [Value.string { data := #[] }] = [.lit (Value.string { data := #[] })] := by kernel_rfl
@[simp] theorem z9 : zeroOf Tryz.prog 9 = some [Value.string { data := #[] }] := by kernel_rfl
@[simp] theorem pl9 : placesOf Tryz.prog 9 = none := by kernel_rfl
@[simp] theorem st9 : strT Tryz.prog 9 = true := by kernel_rfl
@[simp] theorem ty10 : tyOf Tryz.prog 10 = some (false, 1) := by kernel_rfl
@[simp] theorem zav10 : zAV Tryz.prog 10 [Value.string { data := #[] }] = [.lit (Value.string { data := #[] })] := by kernel_rfl
@[simp] theorem z10 : zeroOf Tryz.prog 10 = some [Value.string { data := #[] }] := by kernel_rfl
@[simp] theorem pl10 : placesOf Tryz.prog 10 = none := by kernel_rfl
@[simp] theorem st10 : strT Tryz.prog 10 = true := by kernel_rfl
@[simp] theorem ty11 : tyOf Tryz.prog 11 = some (false, 1) := by kernel_rfl
@[simp] theorem zav11 : zAV Tryz.prog 11 [Value.string { data := #[] }] = [.lit (Value.string { data := #[] })] := by kernel_rfl
@[simp] theorem z11 : zeroOf Tryz.prog 11 = some [Value.string { data := #[] }] := by kernel_rfl
@[simp] theorem pl11 : placesOf Tryz.prog 11 = none := by kernel_rfl
@[simp] theorem st11 : strT Tryz.prog 11 = true := by kernel_rfl
@[simp] theorem ty12 : tyOf Tryz.prog 12 = some (false, 1) := by kernel_rfl
@[simp] theorem zav12 : zAV Tryz.prog 12 [Value.int IntKind.u64 0] = [.lit (Value.int IntKind.u64 0)] := by kernel_rfl
@[simp] theorem z12 : zeroOf Tryz.prog 12 = some [Value.int IntKind.u64 0] := by kernel_rfl
@[simp] theorem pl12 : placesOf Tryz.prog 12 = none := by kernel_rfl
@[simp] theorem in12 : intT Tryz.prog 12 = some .u64 := by kernel_rfl
@[simp] theorem un12 : Tryz.prog.underlying 12 = some (.int .u64) := by kernel_rfl
@[simp] theorem ty13 : tyOf Tryz.prog 13 = some (true, 2) := by kernel_rfl
@[simp] theorem zav13 : zAV Tryz.prog 13 [Value.string { data := #[] }, Value.int IntKind.u64 0] = [.lit (Value.string { data := #[] }), .lit (Value.int IntKind.u64 0)] := by kernel_rfl
@[simp] theorem z13 : zeroOf Tryz.prog 13 = some [Value.string { data := #[] }, Value.int IntKind.u64 0] := by kernel_rfl
@[simp] theorem fld13_0 : fldOf Tryz.prog 13 0 = some (0, false, 1) := by kernel_rfl
@[simp] theorem fld13_1 : fldOf Tryz.prog 13 1 = some (1, false, 1) := by kernel_rfl
@[simp] theorem pl13 : placesOf Tryz.prog 13 = some [(0, 1), (1, 1)] := by kernel_rfl
@[simp] theorem ty14 : tyOf Tryz.prog 14 = some (true, 2) := by kernel_rfl
@[simp] theorem zav14 : zAV Tryz.prog 14 [Value.string { data := #[] }, Value.int IntKind.u64 0] = [.lit (Value.string { data := #[] }), .lit (Value.int IntKind.u64 0)] := by kernel_rfl
@[simp] theorem z14 : zeroOf Tryz.prog 14 = some [Value.string { data := #[] }, Value.int IntKind.u64 0] := by kernel_rfl
@[simp] theorem fld14_0 : fldOf Tryz.prog 14 0 = some (0, false, 1) := by kernel_rfl
@[simp] theorem fld14_1 : fldOf Tryz.prog 14 1 = some (1, false, 1) := by kernel_rfl
@[simp] theorem pl14 : placesOf Tryz.prog 14 = some [(0, 1), (1, 1)] := by kernel_rfl
@[simp] theorem ty15 : tyOf Tryz.prog 15 = some (false, 1) := by kernel_rfl
@[simp] theorem zav15 : zAV Tryz.prog 15 [Value.pointer none] = [.lit (Value.pointer none)] := by kernel_rfl
@[simp] theorem z15 : zeroOf Tryz.prog 15 = some [Value.pointer none] := by kernel_rfl
@[simp] theorem pl15 : placesOf Tryz.prog 15 = none := by kernel_rfl
@[simp] theorem pt15 : ptT Tryz.prog 15 = some 252 := by kernel_rfl
@[simp] theorem ty16 : tyOf Tryz.prog 16 = some (false, 1) := by kernel_rfl
@[simp] theorem zav16 : zAV Tryz.prog 16 [Value.pointer none] = [.lit (Value.pointer none)] := by kernel_rfl
@[simp] theorem z16 : zeroOf Tryz.prog 16 = some [Value.pointer none] := by kernel_rfl
@[simp] theorem pl16 : placesOf Tryz.prog 16 = none := by kernel_rfl
@[simp] theorem pt16 : ptT Tryz.prog 16 = some 255 := by kernel_rfl
@[simp] theorem ty17 : tyOf Tryz.prog 17 = some (false, 1) := by kernel_rfl
@[simp] theorem zav17 : zAV Tryz.prog 17 [Value.pointer none] = [.lit (Value.pointer none)] := by kernel_rfl
@[simp] theorem z17 : zeroOf Tryz.prog 17 = some [Value.pointer none] := by kernel_rfl
@[simp] theorem pl17 : placesOf Tryz.prog 17 = none := by kernel_rfl
@[simp] theorem pt17 : ptT Tryz.prog 17 = some 262 := by kernel_rfl
@[simp] theorem ty18 : tyOf Tryz.prog 18 = some (true, 1) := by kernel_rfl
@[simp] theorem zav18 : zAV Tryz.prog 18 [Value.pointer none] = [.lit (Value.pointer none)] := by kernel_rfl
@[simp] theorem z18 : zeroOf Tryz.prog 18 = some [Value.pointer none] := by kernel_rfl
@[simp] theorem fld18_0 : fldOf Tryz.prog 18 0 = some (0, false, 1) := by kernel_rfl
@[simp] theorem pl18 : placesOf Tryz.prog 18 = some [(0, 1)] := by kernel_rfl
@[simp] theorem ty19 : tyOf Tryz.prog 19 = some (true, 1) := by kernel_rfl
@[simp] theorem zav19 : zAV Tryz.prog 19 [Value.pointer none] = [.lit (Value.pointer none)] := by kernel_rfl
@[simp] theorem z19 : zeroOf Tryz.prog 19 = some [Value.pointer none] := by kernel_rfl
@[simp] theorem fld19_0 : fldOf Tryz.prog 19 0 = some (0, false, 1) := by kernel_rfl
@[simp] theorem pl19 : placesOf Tryz.prog 19 = some [(0, 1)] := by kernel_rfl
@[simp] theorem ty20 : tyOf Tryz.prog 20 = some (false, 1) := by kernel_rfl
@[simp] theorem pl20 : placesOf Tryz.prog 20 = none := by kernel_rfl
@[simp] theorem ty21 : tyOf Tryz.prog 21 = some (false, 1) := by kernel_rfl
@[simp] theorem zav21 : zAV Tryz.prog 21 [Value.int IntKind.i32 0] = [.lit (Value.int IntKind.i32 0)] := by kernel_rfl
@[simp] theorem z21 : zeroOf Tryz.prog 21 = some [Value.int IntKind.i32 0] := by kernel_rfl
@[simp] theorem pl21 : placesOf Tryz.prog 21 = none := by kernel_rfl
@[simp] theorem in21 : intT Tryz.prog 21 = some .i32 := by kernel_rfl
@[simp] theorem un21 : Tryz.prog.underlying 21 = some (.int .i32) := by kernel_rfl
@[simp] theorem ty22 : tyOf Tryz.prog 22 = some (false, 1) := by kernel_rfl
@[simp] theorem zav22 : zAV Tryz.prog 22 [Value.slice none 0 0] = [.nl 4] := by kernel_rfl
@[simp] theorem z22 : zeroOf Tryz.prog 22 = some [Value.slice none 0 0] := by kernel_rfl
@[simp] theorem pl22 : placesOf Tryz.prog 22 = none := by kernel_rfl
@[simp] theorem el22 : elOf Tryz.prog 22 = some (29, true, 4, 80, [Value.slice none 0 0, Value.bool false, Value.slice none 0 0, Value.slice none 0 0]) := by kernel_rfl
@[simp] theorem ty23 : tyOf Tryz.prog 23 = some (false, 1) := by kernel_rfl
@[simp] theorem zav23 : zAV Tryz.prog 23 [Value.slice none 0 0] = [.nl 4] := by kernel_rfl
@[simp] theorem z23 : zeroOf Tryz.prog 23 = some [Value.slice none 0 0] := by kernel_rfl
@[simp] theorem pl23 : placesOf Tryz.prog 23 = none := by kernel_rfl
@[simp] theorem el23 : elOf Tryz.prog 23 = some (84, true, 4, 64, [Value.int IntKind.i64 0, Value.bool false, Value.slice none 0 0, Value.slice none 0 0]) := by kernel_rfl
@[simp] theorem ty24 : tyOf Tryz.prog 24 = some (false, 1) := by kernel_rfl
@[simp] theorem zav24 : zAV Tryz.prog 24 [Value.slice none 0 0] = [.nl 1] := by kernel_rfl
@[simp] theorem z24 : zeroOf Tryz.prog 24 = some [Value.slice none 0 0] := by kernel_rfl
@[simp] theorem pl24 : placesOf Tryz.prog 24 = none := by kernel_rfl
@[simp] theorem el24 : elOf Tryz.prog 24 = some (178, false, 1, 4, [Value.int IntKind.u32 0]) := by kernel_rfl
@[simp] theorem ty25 : tyOf Tryz.prog 25 = some (false, 1) := by kernel_rfl
@[simp] theorem zav25 : zAV Tryz.prog 25 [Value.slice none 0 0] = [.nl 1] := by kernel_rfl
@[simp] theorem z25 : zeroOf Tryz.prog 25 = some [Value.slice none 0 0] := by kernel_rfl
@[simp] theorem pl25 : placesOf Tryz.prog 25 = none := by kernel_rfl
@[simp] theorem el25 : elOf Tryz.prog 25 = some (178, false, 1, 4, [Value.int IntKind.u32 0]) := by kernel_rfl
@[simp] theorem ty26 : tyOf Tryz.prog 26 = some (true, 3) := by kernel_rfl
@[simp] theorem zav26 : zAV Tryz.prog 26 [Value.bool false, Value.slice none 0 0, Value.slice none 0 0] = [.lit (Value.bool false), .nl 1, .nl 1] := by kernel_rfl
@[simp] theorem z26 : zeroOf Tryz.prog 26 = some [Value.bool false, Value.slice none 0 0, Value.slice none 0 0] := by kernel_rfl
@[simp] theorem fld26_0 : fldOf Tryz.prog 26 0 = some (0, false, 1) := by kernel_rfl
@[simp] theorem fld26_1 : fldOf Tryz.prog 26 1 = some (1, false, 1) := by kernel_rfl
@[simp] theorem fld26_2 : fldOf Tryz.prog 26 2 = some (2, false, 1) := by kernel_rfl
@[simp] theorem pl26 : placesOf Tryz.prog 26 = some [(0, 1), (1, 1), (2, 1)] := by kernel_rfl
@[simp] theorem ty27 : tyOf Tryz.prog 27 = some (true, 3) := by kernel_rfl
@[simp] theorem zav27 : zAV Tryz.prog 27 [Value.bool false, Value.slice none 0 0, Value.slice none 0 0] = [.lit (Value.bool false), .nl 1, .nl 1] := by kernel_rfl
@[simp] theorem z27 : zeroOf Tryz.prog 27 = some [Value.bool false, Value.slice none 0 0, Value.slice none 0 0] := by kernel_rfl
@[simp] theorem fld27_0 : fldOf Tryz.prog 27 0 = some (0, false, 1) := by kernel_rfl
@[simp] theorem fld27_1 : fldOf Tryz.prog 27 1 = some (1, false, 1) := by kernel_rfl
@[simp] theorem fld27_2 : fldOf Tryz.prog 27 2 = some (2, false, 1) := by kernel_rfl
@[simp] theorem pl27 : placesOf Tryz.prog 27 = some [(0, 1), (1, 1), (2, 1)] := by kernel_rfl
@[simp] theorem ty28 : tyOf Tryz.prog 28 = some (true, 4) := by kernel_rfl
@[simp] theorem zav28 : zAV Tryz.prog 28 [Value.slice none 0 0, Value.bool false, Value.slice none 0 0, Value.slice none 0 0] = [.nl 4, .lit (Value.bool false), .nl 1, .nl 1] := by kernel_rfl
@[simp] theorem z28 : zeroOf Tryz.prog 28 = some [Value.slice none 0 0, Value.bool false, Value.slice none 0 0, Value.slice none 0 0] := by kernel_rfl
@[simp] theorem fld28_0 : fldOf Tryz.prog 28 0 = some (0, false, 1) := by kernel_rfl
@[simp] theorem fld28_1 : fldOf Tryz.prog 28 1 = some (1, true, 3) := by kernel_rfl
@[simp] theorem pl28 : placesOf Tryz.prog 28 = some [(0, 1), (1, 3)] := by kernel_rfl
@[simp] theorem ty29 : tyOf Tryz.prog 29 = some (true, 4) := by kernel_rfl
@[simp] theorem zav29 : zAV Tryz.prog 29 [Value.slice none 0 0, Value.bool false, Value.slice none 0 0, Value.slice none 0 0] = [.nl 4, .lit (Value.bool false), .nl 1, .nl 1] := by kernel_rfl
@[simp] theorem z29 : zeroOf Tryz.prog 29 = some [Value.slice none 0 0, Value.bool false, Value.slice none 0 0, Value.slice none 0 0] := by kernel_rfl
@[simp] theorem fld29_0 : fldOf Tryz.prog 29 0 = some (0, false, 1) := by kernel_rfl
@[simp] theorem fld29_1 : fldOf Tryz.prog 29 1 = some (1, true, 3) := by kernel_rfl
@[simp] theorem pl29 : placesOf Tryz.prog 29 = some [(0, 1), (1, 3)] := by kernel_rfl
@[simp] theorem ty30 : tyOf Tryz.prog 30 = some (true, 6) := by kernel_rfl
@[simp] theorem zav30 : zAV Tryz.prog 30 [Value.int IntKind.i64 0, Value.slice none 0 0, Value.slice none 0 0, Value.bool false, Value.slice none 0 0, Value.slice none 0 0] = [.lit (Value.int IntKind.i64 0), .nl 4, .nl 4, .lit (Value.bool false), .nl 1, .nl 1] := by kernel_rfl
@[simp] theorem z30 : zeroOf Tryz.prog 30 = some [Value.int IntKind.i64 0, Value.slice none 0 0, Value.slice none 0 0, Value.bool false, Value.slice none 0 0, Value.slice none 0 0] := by kernel_rfl
@[simp] theorem fld30_0 : fldOf Tryz.prog 30 0 = some (0, false, 1) := by kernel_rfl
@[simp] theorem fld30_1 : fldOf Tryz.prog 30 1 = some (1, false, 1) := by kernel_rfl
@[simp] theorem fld30_2 : fldOf Tryz.prog 30 2 = some (2, true, 4) := by kernel_rfl
@[simp] theorem pl30 : placesOf Tryz.prog 30 = some [(0, 1), (1, 1), (2, 4)] := by kernel_rfl
@[simp] theorem ty31 : tyOf Tryz.prog 31 = some (true, 6) := by kernel_rfl
@[simp] theorem zav31 : zAV Tryz.prog 31 [Value.int IntKind.i64 0, Value.slice none 0 0, Value.slice none 0 0, Value.bool false, Value.slice none 0 0, Value.slice none 0 0] = [.lit (Value.int IntKind.i64 0), .nl 4, .nl 4, .lit (Value.bool false), .nl 1, .nl 1] := by kernel_rfl
@[simp] theorem z31 : zeroOf Tryz.prog 31 = some [Value.int IntKind.i64 0, Value.slice none 0 0, Value.slice none 0 0, Value.bool false, Value.slice none 0 0, Value.slice none 0 0] := by kernel_rfl
@[simp] theorem fld31_0 : fldOf Tryz.prog 31 0 = some (0, false, 1) := by kernel_rfl
@[simp] theorem fld31_1 : fldOf Tryz.prog 31 1 = some (1, false, 1) := by kernel_rfl
@[simp] theorem fld31_2 : fldOf Tryz.prog 31 2 = some (2, true, 4) := by kernel_rfl
@[simp] theorem pl31 : placesOf Tryz.prog 31 = some [(0, 1), (1, 1), (2, 4)] := by kernel_rfl
@[simp] theorem ty32 : tyOf Tryz.prog 32 = some (false, 1) := by kernel_rfl
@[simp] theorem pl32 : placesOf Tryz.prog 32 = none := by kernel_rfl
@[simp] theorem ty33 : tyOf Tryz.prog 33 = some (false, 1) := by kernel_rfl
@[simp] theorem pl33 : placesOf Tryz.prog 33 = none := by kernel_rfl
@[simp] theorem ty34 : tyOf Tryz.prog 34 = some (false, 1) := by kernel_rfl
@[simp] theorem pl34 : placesOf Tryz.prog 34 = none := by kernel_rfl
@[simp] theorem ty35 : tyOf Tryz.prog 35 = some (false, 1) := by kernel_rfl
@[simp] theorem zav35 : zAV Tryz.prog 35 [Value.slice none 0 0] = [.nl 1] := by kernel_rfl
@[simp] theorem z35 : zeroOf Tryz.prog 35 = some [Value.slice none 0 0] := by kernel_rfl
@[simp] theorem pl35 : placesOf Tryz.prog 35 = none := by kernel_rfl
@[simp] theorem el35 : elOf Tryz.prog 35 = some (5, false, 1, 1, [Value.int IntKind.u8 0]) := by kernel_rfl
@[simp] theorem by35 : bytT Tryz.prog 35 = some 5 := by kernel_rfl
@[simp] theorem ty36 : tyOf Tryz.prog 36 = some (false, 1) := by kernel_rfl
@[simp] theorem pl36 : placesOf Tryz.prog 36 = none := by kernel_rfl
@[simp] theorem ty37 : tyOf Tryz.prog 37 = some (true, 3) := by kernel_rfl
@[simp] theorem zav37 : zAV Tryz.prog 37 [Value.int IntKind.i64 0, Value.slice none 0 0, Value.slice none 0 0] = [.lit (Value.int IntKind.i64 0), .nl 4, .nl 4] := by kernel_rfl
@[simp] theorem z37 : zeroOf Tryz.prog 37 = some [Value.int IntKind.i64 0, Value.slice none 0 0, Value.slice none 0 0] := by kernel_rfl
@[simp] theorem fld37_0 : fldOf Tryz.prog 37 0 = some (0, false, 1) := by kernel_rfl
@[simp] theorem fld37_1 : fldOf Tryz.prog 37 1 = some (1, false, 1) := by kernel_rfl
@[simp] theorem fld37_2 : fldOf Tryz.prog 37 2 = some (2, false, 1) := by kernel_rfl
@[simp] theorem pl37 : placesOf Tryz.prog 37 = some [(0, 1), (1, 1), (2, 1)] := by kernel_rfl
@[simp] theorem ty38 : tyOf Tryz.prog 38 = some (true, 3) := by kernel_rfl
@[simp] theorem zav38 : zAV Tryz.prog 38 [Value.int IntKind.i64 0, Value.slice none 0 0, Value.slice none 0 0] = [.lit (Value.int IntKind.i64 0), .nl 4, .nl 4] := by kernel_rfl
@[simp] theorem z38 : zeroOf Tryz.prog 38 = some [Value.int IntKind.i64 0, Value.slice none 0 0, Value.slice none 0 0] := by kernel_rfl
@[simp] theorem fld38_0 : fldOf Tryz.prog 38 0 = some (0, false, 1) := by kernel_rfl
@[simp] theorem fld38_1 : fldOf Tryz.prog 38 1 = some (1, false, 1) := by kernel_rfl
@[simp] theorem fld38_2 : fldOf Tryz.prog 38 2 = some (2, false, 1) := by kernel_rfl
@[simp] theorem pl38 : placesOf Tryz.prog 38 = some [(0, 1), (1, 1), (2, 1)] := by kernel_rfl
@[simp] theorem ty39 : tyOf Tryz.prog 39 = some (false, 1) := by kernel_rfl
@[simp] theorem pl39 : placesOf Tryz.prog 39 = none := by kernel_rfl
@[simp] theorem ty40 : tyOf Tryz.prog 40 = some (false, 1) := by kernel_rfl
@[simp] theorem zav40 : zAV Tryz.prog 40 [Value.int IntKind.i64 0] = [.lit (Value.int IntKind.i64 0)] := by kernel_rfl
@[simp] theorem z40 : zeroOf Tryz.prog 40 = some [Value.int IntKind.i64 0] := by kernel_rfl
@[simp] theorem pl40 : placesOf Tryz.prog 40 = none := by kernel_rfl
@[simp] theorem in40 : intT Tryz.prog 40 = some .i64 := by kernel_rfl
@[simp] theorem un40 : Tryz.prog.underlying 40 = some (.int .i64) := by kernel_rfl
@[simp] theorem ty41 : tyOf Tryz.prog 41 = some (false, 1) := by kernel_rfl
@[simp] theorem zav41 : zAV Tryz.prog 41 [Value.tuple #[Value.agg #[Value.int IntKind.i64 0, Value.slice none 0 0, Value.slice none 0 0], Value.int IntKind.i64 0]] = [.lit (Value.tuple #[Value.agg #[Value.int IntKind.i64 0, Value.slice none 0 0, Value.slice none 0 0], Value.int IntKind.i64 0])] := by kernel_rfl
@[simp] theorem z41 : zeroOf Tryz.prog 41 = some [Value.tuple #[Value.agg #[Value.int IntKind.i64 0, Value.slice none 0 0, Value.slice none 0 0], Value.int IntKind.i64 0]] := by kernel_rfl
@[simp] theorem pl41 : placesOf Tryz.prog 41 = none := by kernel_rfl
@[simp] theorem ty42 : tyOf Tryz.prog 42 = some (false, 1) := by kernel_rfl
@[simp] theorem pl42 : placesOf Tryz.prog 42 = none := by kernel_rfl
@[simp] theorem ty43 : tyOf Tryz.prog 43 = some (false, 1) := by kernel_rfl
@[simp] theorem pl43 : placesOf Tryz.prog 43 = none := by kernel_rfl
@[simp] theorem ty44 : tyOf Tryz.prog 44 = some (false, 1) := by kernel_rfl
@[simp] theorem pl44 : placesOf Tryz.prog 44 = none := by kernel_rfl
@[simp] theorem ty45 : tyOf Tryz.prog 45 = some (false, 1) := by kernel_rfl
@[simp] theorem pl45 : placesOf Tryz.prog 45 = none := by kernel_rfl
@[simp] theorem ty46 : tyOf Tryz.prog 46 = some (false, 1) := by kernel_rfl
@[simp] theorem pl46 : placesOf Tryz.prog 46 = none := by kernel_rfl
@[simp] theorem ty47 : tyOf Tryz.prog 47 = some (false, 1) := by kernel_rfl
@[simp] theorem zav47 : zAV Tryz.prog 47 [Value.slice none 0 0] = [.nl 3] := by kernel_rfl
@[simp] theorem z47 : zeroOf Tryz.prog 47 = some [Value.slice none 0 0] := by kernel_rfl
@[simp] theorem pl47 : placesOf Tryz.prog 47 = none := by kernel_rfl
@[simp] theorem el47 : elOf Tryz.prog 47 = some (27, true, 3, 56, [Value.bool false, Value.slice none 0 0, Value.slice none 0 0]) := by kernel_rfl
@[simp] theorem ty48 : tyOf Tryz.prog 48 = some (false, 1) := by kernel_rfl
@[simp] theorem pl48 : placesOf Tryz.prog 48 = none := by kernel_rfl
@[simp] theorem ty49 : tyOf Tryz.prog 49 = some (false, 1) := by kernel_rfl
@[simp] theorem pl49 : placesOf Tryz.prog 49 = none := by kernel_rfl
@[simp] theorem ty50 : tyOf Tryz.prog 50 = some (false, 1) := by kernel_rfl
@[simp] theorem pl50 : placesOf Tryz.prog 50 = none := by kernel_rfl
@[simp] theorem ty51 : tyOf Tryz.prog 51 = some (false, 1) := by kernel_rfl
@[simp] theorem pl51 : placesOf Tryz.prog 51 = none := by kernel_rfl
@[simp] theorem ty52 : tyOf Tryz.prog 52 = some (false, 1) := by kernel_rfl
@[simp] theorem pl52 : placesOf Tryz.prog 52 = none := by kernel_rfl
@[simp] theorem ty53 : tyOf Tryz.prog 53 = some (false, 1) := by kernel_rfl
@[simp] theorem zav53 : zAV Tryz.prog 53 [Value.tuple #[Value.slice none 0 0, Value.int IntKind.i64 0]] = [.lit (Value.tuple #[Value.slice none 0 0, Value.int IntKind.i64 0])] := by kernel_rfl
@[simp] theorem z53 : zeroOf Tryz.prog 53 = some [Value.tuple #[Value.slice none 0 0, Value.int IntKind.i64 0]] := by kernel_rfl
@[simp] theorem pl53 : placesOf Tryz.prog 53 = none := by kernel_rfl
@[simp] theorem ty54 : tyOf Tryz.prog 54 = some (false, 1) := by kernel_rfl
@[simp] theorem pl54 : placesOf Tryz.prog 54 = none := by kernel_rfl
@[simp] theorem ty55 : tyOf Tryz.prog 55 = some (false, 1) := by kernel_rfl
@[simp] theorem pl55 : placesOf Tryz.prog 55 = none := by kernel_rfl
@[simp] theorem ty56 : tyOf Tryz.prog 56 = some (false, 1) := by kernel_rfl
@[simp] theorem pl56 : placesOf Tryz.prog 56 = none := by kernel_rfl
@[simp] theorem ty57 : tyOf Tryz.prog 57 = some (false, 1) := by kernel_rfl
@[simp] theorem pl57 : placesOf Tryz.prog 57 = none := by kernel_rfl
@[simp] theorem ty58 : tyOf Tryz.prog 58 = some (false, 1) := by kernel_rfl
@[simp] theorem pl58 : placesOf Tryz.prog 58 = none := by kernel_rfl
@[simp] theorem ty59 : tyOf Tryz.prog 59 = some (false, 1) := by kernel_rfl
@[simp] theorem pl59 : placesOf Tryz.prog 59 = none := by kernel_rfl
@[simp] theorem ty60 : tyOf Tryz.prog 60 = some (false, 1) := by kernel_rfl
@[simp] theorem zav60 : zAV Tryz.prog 60 [Value.slice none 0 0] = [.nl 1] := by kernel_rfl
@[simp] theorem z60 : zeroOf Tryz.prog 60 = some [Value.slice none 0 0] := by kernel_rfl
@[simp] theorem pl60 : placesOf Tryz.prog 60 = none := by kernel_rfl
@[simp] theorem el60 : elOf Tryz.prog 60 = some (3, false, 1, 8, [Value.int IntKind.i64 0]) := by kernel_rfl
@[simp] theorem ty61 : tyOf Tryz.prog 61 = some (false, 1) := by kernel_rfl
@[simp] theorem pl61 : placesOf Tryz.prog 61 = none := by kernel_rfl
@[simp] theorem ty62 : tyOf Tryz.prog 62 = some (false, 1) := by kernel_rfl
@[simp] theorem pl62 : placesOf Tryz.prog 62 = none := by kernel_rfl
@[simp] theorem ty63 : tyOf Tryz.prog 63 = some (false, 1) := by kernel_rfl
@[simp] theorem pl63 : placesOf Tryz.prog 63 = none := by kernel_rfl
@[simp] theorem ty64 : tyOf Tryz.prog 64 = some (false, 1) := by kernel_rfl
@[simp] theorem pl64 : placesOf Tryz.prog 64 = none := by kernel_rfl
@[simp] theorem ty65 : tyOf Tryz.prog 65 = some (false, 1) := by kernel_rfl
@[simp] theorem pl65 : placesOf Tryz.prog 65 = none := by kernel_rfl
@[simp] theorem ty66 : tyOf Tryz.prog 66 = some (false, 1) := by kernel_rfl
@[simp] theorem pl66 : placesOf Tryz.prog 66 = none := by kernel_rfl
@[simp] theorem ty67 : tyOf Tryz.prog 67 = some (false, 1) := by kernel_rfl
@[simp] theorem pl67 : placesOf Tryz.prog 67 = none := by kernel_rfl
@[simp] theorem ty68 : tyOf Tryz.prog 68 = some (false, 1) := by kernel_rfl
@[simp] theorem zav68 : zAV Tryz.prog 68 [Value.tuple #[Value.agg #[Value.slice none 0 0, Value.bool false, Value.slice none 0 0, Value.slice none 0 0], Value.int IntKind.i64 0, Value.int IntKind.i64 0]] = [.lit (Value.tuple #[Value.agg #[Value.slice none 0 0, Value.bool false, Value.slice none 0 0, Value.slice none 0 0], Value.int IntKind.i64 0, Value.int IntKind.i64 0])] := by kernel_rfl
@[simp] theorem z68 : zeroOf Tryz.prog 68 = some [Value.tuple #[Value.agg #[Value.slice none 0 0, Value.bool false, Value.slice none 0 0, Value.slice none 0 0], Value.int IntKind.i64 0, Value.int IntKind.i64 0]] := by kernel_rfl
@[simp] theorem pl68 : placesOf Tryz.prog 68 = none := by kernel_rfl
@[simp] theorem ty69 : tyOf Tryz.prog 69 = some (false, 1) := by kernel_rfl
@[simp] theorem pl69 : placesOf Tryz.prog 69 = none := by kernel_rfl
@[simp] theorem ty70 : tyOf Tryz.prog 70 = some (false, 1) := by kernel_rfl
@[simp] theorem pl70 : placesOf Tryz.prog 70 = none := by kernel_rfl
@[simp] theorem ty71 : tyOf Tryz.prog 71 = some (false, 1) := by kernel_rfl
@[simp] theorem pl71 : placesOf Tryz.prog 71 = none := by kernel_rfl
@[simp] theorem ty72 : tyOf Tryz.prog 72 = some (false, 1) := by kernel_rfl
@[simp] theorem pl72 : placesOf Tryz.prog 72 = none := by kernel_rfl
@[simp] theorem ty73 : tyOf Tryz.prog 73 = some (false, 1) := by kernel_rfl
@[simp] theorem zav73 : zAV Tryz.prog 73 [Value.tuple #[Value.agg #[Value.slice none 0 0, Value.bool false, Value.slice none 0 0, Value.slice none 0 0], Value.int IntKind.i64 0]] = [.lit (Value.tuple #[Value.agg #[Value.slice none 0 0, Value.bool false, Value.slice none 0 0, Value.slice none 0 0], Value.int IntKind.i64 0])] := by kernel_rfl
@[simp] theorem z73 : zeroOf Tryz.prog 73 = some [Value.tuple #[Value.agg #[Value.slice none 0 0, Value.bool false, Value.slice none 0 0, Value.slice none 0 0], Value.int IntKind.i64 0]] := by kernel_rfl
@[simp] theorem pl73 : placesOf Tryz.prog 73 = none := by kernel_rfl
@[simp] theorem ty74 : tyOf Tryz.prog 74 = some (false, 1) := by kernel_rfl
@[simp] theorem pl74 : placesOf Tryz.prog 74 = none := by kernel_rfl
@[simp] theorem ty75 : tyOf Tryz.prog 75 = some (false, 1) := by kernel_rfl
@[simp] theorem pl75 : placesOf Tryz.prog 75 = none := by kernel_rfl
@[simp] theorem ty76 : tyOf Tryz.prog 76 = some (false, 1) := by kernel_rfl
@[simp] theorem zav76 : zAV Tryz.prog 76 [Value.tuple #[Value.agg #[Value.int IntKind.i64 0, Value.slice none 0 0, Value.slice none 0 0, Value.bool false, Value.slice none 0 0, Value.slice none 0 0], Value.int IntKind.i64 0]] = [.lit (Value.tuple #[Value.agg #[Value.int IntKind.i64 0, Value.slice none 0 0, Value.slice none 0 0, Value.bool false, Value.slice none 0 0, Value.slice none 0 0], Value.int IntKind.i64 0])] := by kernel_rfl
@[simp] theorem z76 : zeroOf Tryz.prog 76 = some [Value.tuple #[Value.agg #[Value.int IntKind.i64 0, Value.slice none 0 0, Value.slice none 0 0, Value.bool false, Value.slice none 0 0, Value.slice none 0 0], Value.int IntKind.i64 0]] := by kernel_rfl
@[simp] theorem pl76 : placesOf Tryz.prog 76 = none := by kernel_rfl
@[simp] theorem ty77 : tyOf Tryz.prog 77 = some (false, 1) := by kernel_rfl
@[simp] theorem pl77 : placesOf Tryz.prog 77 = none := by kernel_rfl
@[simp] theorem ty78 : tyOf Tryz.prog 78 = some (false, 1) := by kernel_rfl
@[simp] theorem pl78 : placesOf Tryz.prog 78 = none := by kernel_rfl
@[simp] theorem ty79 : tyOf Tryz.prog 79 = some (false, 1) := by kernel_rfl
@[simp] theorem pl79 : placesOf Tryz.prog 79 = none := by kernel_rfl
@[simp] theorem ty80 : tyOf Tryz.prog 80 = some (false, 1) := by kernel_rfl
@[simp] theorem zav80 : zAV Tryz.prog 80 [Value.tuple #[Value.agg #[Value.bool false, Value.slice none 0 0, Value.slice none 0 0], Value.int IntKind.i64 0]] = [.lit (Value.tuple #[Value.agg #[Value.bool false, Value.slice none 0 0, Value.slice none 0 0], Value.int IntKind.i64 0])] := by kernel_rfl
@[simp] theorem z80 : zeroOf Tryz.prog 80 = some [Value.tuple #[Value.agg #[Value.bool false, Value.slice none 0 0, Value.slice none 0 0], Value.int IntKind.i64 0]] := by kernel_rfl
@[simp] theorem pl80 : placesOf Tryz.prog 80 = none := by kernel_rfl
@[simp] theorem ty81 : tyOf Tryz.prog 81 = some (false, 1) := by kernel_rfl
@[simp] theorem pl81 : placesOf Tryz.prog 81 = none := by kernel_rfl
@[simp] theorem ty82 : tyOf Tryz.prog 82 = some (false, 1) := by kernel_rfl
@[simp] theorem pl82 : placesOf Tryz.prog 82 = none := by kernel_rfl
@[simp] theorem ty83 : tyOf Tryz.prog 83 = some (true, 4) := by kernel_rfl
@[simp] theorem zav83 : zAV Tryz.prog 83 [Value.int IntKind.i64 0, Value.bool false, Value.slice none 0 0, Value.slice none 0 0] = [.lit (Value.int IntKind.i64 0), .lit (Value.bool false), .nl 1, .nl 1] := by kernel_rfl
@[simp] theorem z83 : zeroOf Tryz.prog 83 = some [Value.int IntKind.i64 0, Value.bool false, Value.slice none 0 0, Value.slice none 0 0] := by kernel_rfl
@[simp] theorem fld83_0 : fldOf Tryz.prog 83 0 = some (0, false, 1) := by kernel_rfl
@[simp] theorem fld83_1 : fldOf Tryz.prog 83 1 = some (1, true, 3) := by kernel_rfl
@[simp] theorem pl83 : placesOf Tryz.prog 83 = some [(0, 1), (1, 3)] := by kernel_rfl
@[simp] theorem ty84 : tyOf Tryz.prog 84 = some (true, 4) := by kernel_rfl
@[simp] theorem zav84 : zAV Tryz.prog 84 [Value.int IntKind.i64 0, Value.bool false, Value.slice none 0 0, Value.slice none 0 0] = [.lit (Value.int IntKind.i64 0), .lit (Value.bool false), .nl 1, .nl 1] := by kernel_rfl
@[simp] theorem z84 : zeroOf Tryz.prog 84 = some [Value.int IntKind.i64 0, Value.bool false, Value.slice none 0 0, Value.slice none 0 0] := by kernel_rfl
@[simp] theorem fld84_0 : fldOf Tryz.prog 84 0 = some (0, false, 1) := by kernel_rfl
@[simp] theorem fld84_1 : fldOf Tryz.prog 84 1 = some (1, true, 3) := by kernel_rfl
@[simp] theorem pl84 : placesOf Tryz.prog 84 = some [(0, 1), (1, 3)] := by kernel_rfl
@[simp] theorem ty85 : tyOf Tryz.prog 85 = some (false, 1) := by kernel_rfl
@[simp] theorem pl85 : placesOf Tryz.prog 85 = none := by kernel_rfl
@[simp] theorem ty86 : tyOf Tryz.prog 86 = some (false, 1) := by kernel_rfl
@[simp] theorem zav86 : zAV Tryz.prog 86 [Value.pointer none] = [.lit (Value.pointer none)] := by kernel_rfl
@[simp] theorem z86 : zeroOf Tryz.prog 86 = some [Value.pointer none] := by kernel_rfl
@[simp] theorem pl86 : placesOf Tryz.prog 86 = none := by kernel_rfl
@[simp] theorem pt86 : ptT Tryz.prog 86 = some 88 := by kernel_rfl
@[simp] theorem ty87 : tyOf Tryz.prog 87 = some (true, 2) := by kernel_rfl
@[simp] theorem zav87 : zAV Tryz.prog 87 [Value.pointer none, Value.slice none 0 0] = [.lit (Value.pointer none), .nl 1] := by kernel_rfl
@[simp] theorem z87 : zeroOf Tryz.prog 87 = some [Value.pointer none, Value.slice none 0 0] := by kernel_rfl
@[simp] theorem fld87_0 : fldOf Tryz.prog 87 0 = some (0, false, 1) := by kernel_rfl
@[simp] theorem fld87_1 : fldOf Tryz.prog 87 1 = some (1, false, 1) := by kernel_rfl
@[simp] theorem pl87 : placesOf Tryz.prog 87 = some [(0, 1), (1, 1)] := by kernel_rfl
@[simp] theorem ty88 : tyOf Tryz.prog 88 = some (true, 2) := by kernel_rfl
@[simp] theorem zav88 : zAV Tryz.prog 88 [Value.pointer none, Value.slice none 0 0] = [.lit (Value.pointer none), .nl 1] := by kernel_rfl
@[simp] theorem z88 : zeroOf Tryz.prog 88 = some [Value.pointer none, Value.slice none 0 0] := by kernel_rfl
@[simp] theorem fld88_0 : fldOf Tryz.prog 88 0 = some (0, false, 1) := by kernel_rfl
@[simp] theorem fld88_1 : fldOf Tryz.prog 88 1 = some (1, false, 1) := by kernel_rfl
@[simp] theorem pl88 : placesOf Tryz.prog 88 = some [(0, 1), (1, 1)] := by kernel_rfl
@[simp] theorem ty89 : tyOf Tryz.prog 89 = some (false, 1) := by kernel_rfl
@[simp] theorem pl89 : placesOf Tryz.prog 89 = none := by kernel_rfl
@[simp] theorem ty90 : tyOf Tryz.prog 90 = some (false, 1) := by kernel_rfl
@[simp] theorem pl90 : placesOf Tryz.prog 90 = none := by kernel_rfl
@[simp] theorem ty91 : tyOf Tryz.prog 91 = some (false, 1) := by kernel_rfl
@[simp] theorem zav91 : zAV Tryz.prog 91 [Value.tuple #[Value.int IntKind.i64 0, Value.nilIface]] = [.lit (Value.tuple #[Value.int IntKind.i64 0, Value.nilIface])] := by kernel_rfl
@[simp] theorem z91 : zeroOf Tryz.prog 91 = some [Value.tuple #[Value.int IntKind.i64 0, Value.nilIface]] := by kernel_rfl
@[simp] theorem pl91 : placesOf Tryz.prog 91 = none := by kernel_rfl
@[simp] theorem ty92 : tyOf Tryz.prog 92 = some (false, 1) := by kernel_rfl
@[simp] theorem pl92 : placesOf Tryz.prog 92 = none := by kernel_rfl
@[simp] theorem ty93 : tyOf Tryz.prog 93 = some (false, 1) := by kernel_rfl
@[simp] theorem pl93 : placesOf Tryz.prog 93 = none := by kernel_rfl
@[simp] theorem ty94 : tyOf Tryz.prog 94 = some (false, 1) := by kernel_rfl
@[simp] theorem pl94 : placesOf Tryz.prog 94 = none := by kernel_rfl
@[simp] theorem ty95 : tyOf Tryz.prog 95 = some (false, 1) := by kernel_rfl
@[simp] theorem pl95 : placesOf Tryz.prog 95 = none := by kernel_rfl
@[simp] theorem ty96 : tyOf Tryz.prog 96 = some (false, 1) := by kernel_rfl
@[simp] theorem zav96 : zAV Tryz.prog 96 [Value.pointer none] = [.lit (Value.pointer none)] := by kernel_rfl
@[simp] theorem z96 : zeroOf Tryz.prog 96 = some [Value.pointer none] := by kernel_rfl
@[simp] theorem pl96 : placesOf Tryz.prog 96 = none := by kernel_rfl
@[simp] theorem pt96 : ptT Tryz.prog 96 = some 156 := by kernel_rfl
@[simp] theorem ty97 : tyOf Tryz.prog 97 = some (false, 1) := by kernel_rfl
@[simp] theorem pl97 : placesOf Tryz.prog 97 = none := by kernel_rfl
@[simp] theorem ty98 : tyOf Tryz.prog 98 = some (false, 1) := by kernel_rfl
@[simp] theorem pl98 : placesOf Tryz.prog 98 = none := by kernel_rfl
@[simp] theorem ty99 : tyOf Tryz.prog 99 = some (false, 1) := by kernel_rfl
@[simp] theorem pl99 : placesOf Tryz.prog 99 = none := by kernel_rfl
@[simp] theorem ty100 : tyOf Tryz.prog 100 = some (false, 1) := by kernel_rfl
@[simp] theorem pl100 : placesOf Tryz.prog 100 = none := by kernel_rfl
@[simp] theorem ty101 : tyOf Tryz.prog 101 = some (false, 1) := by kernel_rfl
@[simp] theorem pl101 : placesOf Tryz.prog 101 = none := by kernel_rfl
@[simp] theorem ty102 : tyOf Tryz.prog 102 = some (false, 1) := by kernel_rfl
@[simp] theorem pl102 : placesOf Tryz.prog 102 = none := by kernel_rfl
@[simp] theorem ty103 : tyOf Tryz.prog 103 = some (false, 1) := by kernel_rfl
@[simp] theorem pl103 : placesOf Tryz.prog 103 = none := by kernel_rfl
@[simp] theorem ty104 : tyOf Tryz.prog 104 = some (false, 1) := by kernel_rfl
@[simp] theorem pl104 : placesOf Tryz.prog 104 = none := by kernel_rfl
@[simp] theorem ty105 : tyOf Tryz.prog 105 = some (false, 1) := by kernel_rfl
@[simp] theorem pl105 : placesOf Tryz.prog 105 = none := by kernel_rfl
@[simp] theorem ty106 : tyOf Tryz.prog 106 = some (false, 1) := by kernel_rfl
@[simp] theorem pl106 : placesOf Tryz.prog 106 = none := by kernel_rfl
@[simp] theorem ty107 : tyOf Tryz.prog 107 = some (false, 1) := by kernel_rfl
@[simp] theorem pl107 : placesOf Tryz.prog 107 = none := by kernel_rfl
@[simp] theorem ty108 : tyOf Tryz.prog 108 = some (false, 1) := by kernel_rfl
@[simp] theorem pl108 : placesOf Tryz.prog 108 = none := by kernel_rfl
@[simp] theorem ty109 : tyOf Tryz.prog 109 = some (false, 1) := by kernel_rfl
@[simp] theorem pl109 : placesOf Tryz.prog 109 = none := by kernel_rfl
@[simp] theorem ty110 : tyOf Tryz.prog 110 = some (false, 1) := by kernel_rfl
@[simp] theorem pl110 : placesOf Tryz.prog 110 = none := by kernel_rfl
@[simp] theorem ty111 : tyOf Tryz.prog 111 = some (false, 1) := by kernel_rfl
@[simp] theorem pl111 : placesOf Tryz.prog 111 = none := by kernel_rfl
@[simp] theorem ty112 : tyOf Tryz.prog 112 = some (false, 1) := by kernel_rfl
@[simp] theorem pl112 : placesOf Tryz.prog 112 = none := by kernel_rfl
@[simp] theorem ty113 : tyOf Tryz.prog 113 = some (false, 1) := by kernel_rfl
@[simp] theorem zav113 : zAV Tryz.prog 113 [Value.tuple #[Value.slice none 0 0, Value.slice none 0 0, Value.int IntKind.i64 0]] = [.lit (Value.tuple #[Value.slice none 0 0, Value.slice none 0 0, Value.int IntKind.i64 0])] := by kernel_rfl
@[simp] theorem z113 : zeroOf Tryz.prog 113 = some [Value.tuple #[Value.slice none 0 0, Value.slice none 0 0, Value.int IntKind.i64 0]] := by kernel_rfl
@[simp] theorem pl113 : placesOf Tryz.prog 113 = none := by kernel_rfl
@[simp] theorem ty114 : tyOf Tryz.prog 114 = some (false, 1) := by kernel_rfl
@[simp] theorem pl114 : placesOf Tryz.prog 114 = none := by kernel_rfl
@[simp] theorem ty115 : tyOf Tryz.prog 115 = some (false, 1) := by kernel_rfl
@[simp] theorem pl115 : placesOf Tryz.prog 115 = none := by kernel_rfl
@[simp] theorem ty116 : tyOf Tryz.prog 116 = some (false, 1) := by kernel_rfl
@[simp] theorem pl116 : placesOf Tryz.prog 116 = none := by kernel_rfl
@[simp] theorem ty117 : tyOf Tryz.prog 117 = some (false, 1) := by kernel_rfl
@[simp] theorem pl117 : placesOf Tryz.prog 117 = none := by kernel_rfl
@[simp] theorem ty118 : tyOf Tryz.prog 118 = some (false, 1) := by kernel_rfl
@[simp] theorem pl118 : placesOf Tryz.prog 118 = none := by kernel_rfl
@[simp] theorem ty119 : tyOf Tryz.prog 119 = some (false, 1) := by kernel_rfl
@[simp] theorem pl119 : placesOf Tryz.prog 119 = none := by kernel_rfl
@[simp] theorem ty120 : tyOf Tryz.prog 120 = some (true, 2) := by kernel_rfl
@[simp] theorem zav120 : zAV Tryz.prog 120 [Value.bool false, Value.slice none 0 0] = [.lit (Value.bool false), .nl 1] := by kernel_rfl
@[simp] theorem z120 : zeroOf Tryz.prog 120 = some [Value.bool false, Value.slice none 0 0] := by kernel_rfl
@[simp] theorem fld120_0 : fldOf Tryz.prog 120 0 = some (0, false, 1) := by kernel_rfl
@[simp] theorem fld120_1 : fldOf Tryz.prog 120 1 = some (1, false, 1) := by kernel_rfl
@[simp] theorem pl120 : placesOf Tryz.prog 120 = some [(0, 1), (1, 1)] := by kernel_rfl
@[simp] theorem ty121 : tyOf Tryz.prog 121 = some (true, 2) := by kernel_rfl
@[simp] theorem zav121 : zAV Tryz.prog 121 [Value.bool false, Value.slice none 0 0] = [.lit (Value.bool false), .nl 1] := by kernel_rfl
@[simp] theorem z121 : zeroOf Tryz.prog 121 = some [Value.bool false, Value.slice none 0 0] := by kernel_rfl
@[simp] theorem fld121_0 : fldOf Tryz.prog 121 0 = some (0, false, 1) := by kernel_rfl
@[simp] theorem fld121_1 : fldOf Tryz.prog 121 1 = some (1, false, 1) := by kernel_rfl
@[simp] theorem pl121 : placesOf Tryz.prog 121 = some [(0, 1), (1, 1)] := by kernel_rfl
@[simp] theorem ty122 : tyOf Tryz.prog 122 = some (false, 1) := by kernel_rfl
@[simp] theorem pl122 : placesOf Tryz.prog 122 = none := by kernel_rfl
@[simp] theorem ty123 : tyOf Tryz.prog 123 = some (false, 1) := by kernel_rfl
@[simp] theorem pl123 : placesOf Tryz.prog 123 = none := by kernel_rfl
@[simp] theorem ty124 : tyOf Tryz.prog 124 = some (false, 1) := by kernel_rfl
@[simp] theorem pl124 : placesOf Tryz.prog 124 = none := by kernel_rfl
@[simp] theorem ty125 : tyOf Tryz.prog 125 = some (false, 1) := by kernel_rfl
@[simp] theorem pl125 : placesOf Tryz.prog 125 = none := by kernel_rfl
@[simp] theorem ty126 : tyOf Tryz.prog 126 = some (false, 1) := by kernel_rfl
@[simp] theorem pl126 : placesOf Tryz.prog 126 = none := by kernel_rfl
@[simp] theorem ty127 : tyOf Tryz.prog 127 = some (false, 1) := by kernel_rfl
@[simp] theorem pl127 : placesOf Tryz.prog 127 = none := by kernel_rfl
@[simp] theorem ty128 : tyOf Tryz.prog 128 = some (false, 1) := by kernel_rfl
@[simp] theorem pl128 : placesOf Tryz.prog 128 = none := by kernel_rfl
@[simp] theorem ty129 : tyOf Tryz.prog 129 = some (false, 1) := by kernel_rfl
@[simp] theorem pl129 : placesOf Tryz.prog 129 = none := by kernel_rfl
@[simp] theorem ty130 : tyOf Tryz.prog 130 = some (false, 1) := by kernel_rfl
@[simp] theorem pl130 : placesOf Tryz.prog 130 = none := by kernel_rfl
@[simp] theorem ty131 : tyOf Tryz.prog 131 = some (false, 1) := by kernel_rfl
@[simp] theorem zav131 : zAV Tryz.prog 131 [Value.pointer none] = [.lit (Value.pointer none)] := by kernel_rfl
@[simp] theorem z131 : zeroOf Tryz.prog 131 = some [Value.pointer none] := by kernel_rfl
@[simp] theorem pl131 : placesOf Tryz.prog 131 = none := by kernel_rfl
@[simp] theorem pt131 : ptT Tryz.prog 131 = some 133 := by kernel_rfl
@[simp] theorem ty132 : tyOf Tryz.prog 132 = some (true, 2) := by kernel_rfl
@[simp] theorem zav132 : zAV Tryz.prog 132 [Value.string { data := #[] }, Value.int IntKind.i64 0] = [.lit (Value.string { data := #[] }), .lit (Value.int IntKind.i64 0)] := by kernel_rfl
@[simp] theorem z132 : zeroOf Tryz.prog 132 = some [Value.string { data := #[] }, Value.int IntKind.i64 0] := by kernel_rfl
@[simp] theorem fld132_0 : fldOf Tryz.prog 132 0 = some (0, false, 1) := by kernel_rfl
@[simp] theorem fld132_1 : fldOf Tryz.prog 132 1 = some (1, false, 1) := by kernel_rfl
@[simp] theorem pl132 : placesOf Tryz.prog 132 = some [(0, 1), (1, 1)] := by kernel_rfl
@[simp] theorem ty133 : tyOf Tryz.prog 133 = some (true, 2) := by kernel_rfl
@[simp] theorem zav133 : zAV Tryz.prog 133 [Value.string { data := #[] }, Value.int IntKind.i64 0] = [.lit (Value.string { data := #[] }), .lit (Value.int IntKind.i64 0)] := by kernel_rfl
@[simp] theorem z133 : zeroOf Tryz.prog 133 = some [Value.string { data := #[] }, Value.int IntKind.i64 0] := by kernel_rfl
@[simp] theorem fld133_0 : fldOf Tryz.prog 133 0 = some (0, false, 1) := by kernel_rfl
@[simp] theorem fld133_1 : fldOf Tryz.prog 133 1 = some (1, false, 1) := by kernel_rfl
@[simp] theorem pl133 : placesOf Tryz.prog 133 = some [(0, 1), (1, 1)] := by kernel_rfl
@[simp] theorem ty134 : tyOf Tryz.prog 134 = some (false, 1) := by kernel_rfl
@[simp] theorem zav134 : zAV Tryz.prog 134 [Value.tuple #[Value.agg #[Value.slice none 0 0, Value.bool false, Value.slice none 0 0, Value.slice none 0 0], Value.bool false]] = [.lit (Value.tuple #[Value.agg #[Value.slice none 0 0, Value.bool false, Value.slice none 0 0, Value.slice none 0 0], Value.bool false])] := by kernel_rfl
@[simp] theorem z134 : zeroOf Tryz.prog 134 = some [Value.tuple #[Value.agg #[Value.slice none 0 0, Value.bool false, Value.slice none 0 0, Value.slice none 0 0], Value.bool false]] := by kernel_rfl
@[simp] theorem pl134 : placesOf Tryz.prog 134 = none := by kernel_rfl
@[simp] theorem ty135 : tyOf Tryz.prog 135 = some (false, 1) := by kernel_rfl
@[simp] theorem pl135 : placesOf Tryz.prog 135 = none := by kernel_rfl
@[simp] theorem ty136 : tyOf Tryz.prog 136 = some (false, 1) := by kernel_rfl
@[simp] theorem pl136 : placesOf Tryz.prog 136 = none := by kernel_rfl
@[simp] theorem ty137 : tyOf Tryz.prog 137 = some (false, 1) := by kernel_rfl
@[simp] theorem pl137 : placesOf Tryz.prog 137 = none := by kernel_rfl
@[simp] theorem ty138 : tyOf Tryz.prog 138 = some (false, 1) := by kernel_rfl
@[simp] theorem pl138 : placesOf Tryz.prog 138 = none := by kernel_rfl
@[simp] theorem ty139 : tyOf Tryz.prog 139 = some (false, 1) := by kernel_rfl
@[simp] theorem zav139 : zAV Tryz.prog 139 [Value.int IntKind.u64 0] = [.lit (Value.int IntKind.u64 0)] := by kernel_rfl
@[simp] theorem z139 : zeroOf Tryz.prog 139 = some [Value.int IntKind.u64 0] := by kernel_rfl
@[simp] theorem pl139 : placesOf Tryz.prog 139 = none := by kernel_rfl
@[simp] theorem in139 : intT Tryz.prog 139 = some .u64 := by kernel_rfl
@[simp] theorem un139 : Tryz.prog.underlying 139 = some (.int .u64) := by kernel_rfl
@[simp] theorem ty140 : tyOf Tryz.prog 140 = some (false, 1) := by kernel_rfl
@[simp] theorem zav140 : zAV Tryz.prog 140 [Value.pointer none] = [.lit (Value.pointer none)] := by kernel_rfl
@[simp] theorem z140 : zeroOf Tryz.prog 140 = some [Value.pointer none] := by kernel_rfl
@[simp] theorem pl140 : placesOf Tryz.prog 140 = none := by kernel_rfl
@[simp] theorem pt140 : ptT Tryz.prog 140 = some 142 := by kernel_rfl
@[simp] theorem ty141 : tyOf Tryz.prog 141 = some (true, 3) := by kernel_rfl
@[simp] theorem zav141 : zAV Tryz.prog 141 [Value.string { data := #[] }, Value.int IntKind.i64 0, Value.bool false] = [.lit (Value.string { data := #[] }), .lit (Value.int IntKind.i64 0), .lit (Value.bool false)] := by kernel_rfl
@[simp] theorem z141 : zeroOf Tryz.prog 141 = some [Value.string { data := #[] }, Value.int IntKind.i64 0, Value.bool false] := by kernel_rfl
@[simp] theorem fld141_0 : fldOf Tryz.prog 141 0 = some (0, false, 1) := by kernel_rfl
@[simp] theorem fld141_1 : fldOf Tryz.prog 141 1 = some (1, false, 1) := by kernel_rfl
@[simp] theorem fld141_2 : fldOf Tryz.prog 141 2 = some (2, false, 1) := by kernel_rfl
@[simp] theorem pl141 : placesOf Tryz.prog 141 = some [(0, 1), (1, 1), (2, 1)] := by kernel_rfl
@[simp] theorem ty142 : tyOf Tryz.prog 142 = some (true, 3) := by kernel_rfl
@[simp] theorem zav142 : zAV Tryz.prog 142 [Value.string { data := #[] }, Value.int IntKind.i64 0, Value.bool false] = [.lit (Value.string { data := #[] }), .lit (Value.int IntKind.i64 0), .lit (Value.bool false)] := by kernel_rfl
@[simp] theorem z142 : zeroOf Tryz.prog 142 = some [Value.string { data := #[] }, Value.int IntKind.i64 0, Value.bool false] := by kernel_rfl
@[simp] theorem fld142_0 : fldOf Tryz.prog 142 0 = some (0, false, 1) := by kernel_rfl
@[simp] theorem fld142_1 : fldOf Tryz.prog 142 1 = some (1, false, 1) := by kernel_rfl
@[simp] theorem fld142_2 : fldOf Tryz.prog 142 2 = some (2, false, 1) := by kernel_rfl
@[simp] theorem pl142 : placesOf Tryz.prog 142 = some [(0, 1), (1, 1), (2, 1)] := by kernel_rfl
@[simp] theorem ty143 : tyOf Tryz.prog 143 = some (false, 1) := by kernel_rfl
@[simp] theorem pl143 : placesOf Tryz.prog 143 = none := by kernel_rfl
@[simp] theorem ty144 : tyOf Tryz.prog 144 = some (false, 1) := by kernel_rfl
@[simp] theorem pl144 : placesOf Tryz.prog 144 = none := by kernel_rfl
@[simp] theorem ty145 : tyOf Tryz.prog 145 = some (false, 1) := by kernel_rfl
@[simp] theorem pl145 : placesOf Tryz.prog 145 = none := by kernel_rfl
@[simp] theorem ty146 : tyOf Tryz.prog 146 = some (false, 1) := by kernel_rfl
@[simp] theorem pl146 : placesOf Tryz.prog 146 = none := by kernel_rfl
@[simp] theorem ty147 : tyOf Tryz.prog 147 = some (false, 1) := by kernel_rfl
@[simp] theorem pl147 : placesOf Tryz.prog 147 = none := by kernel_rfl
@[simp] theorem ty148 : tyOf Tryz.prog 148 = some (false, 1) := by kernel_rfl
@[simp] theorem pl148 : placesOf Tryz.prog 148 = none := by kernel_rfl
@[simp] theorem ty149 : tyOf Tryz.prog 149 = some (false, 1) := by kernel_rfl
@[simp] theorem pl149 : placesOf Tryz.prog 149 = none := by kernel_rfl
@[simp] theorem ty150 : tyOf Tryz.prog 150 = some (false, 1) := by kernel_rfl
@[simp] theorem pl150 : placesOf Tryz.prog 150 = none := by kernel_rfl
@[simp] theorem ty151 : tyOf Tryz.prog 151 = some (false, 1) := by kernel_rfl
@[simp] theorem pl151 : placesOf Tryz.prog 151 = none := by kernel_rfl
@[simp] theorem ty152 : tyOf Tryz.prog 152 = some (false, 1) := by kernel_rfl
@[simp] theorem pl152 : placesOf Tryz.prog 152 = none := by kernel_rfl
@[simp] theorem ty153 : tyOf Tryz.prog 153 = some (false, 1) := by kernel_rfl
@[simp] theorem zav153 : zAV Tryz.prog 153 [Value.pointer none] = [.lit (Value.pointer none)] := by kernel_rfl
@[simp] theorem z153 : zeroOf Tryz.prog 153 = some [Value.pointer none] := by kernel_rfl
@[simp] theorem pl153 : placesOf Tryz.prog 153 = none := by kernel_rfl
@[simp] theorem pt153 : ptT Tryz.prog 153 = some 5 := by kernel_rfl
@[simp] theorem ty154 : tyOf Tryz.prog 154 = some (false, 1) := by kernel_rfl
@[simp] theorem pl154 : placesOf Tryz.prog 154 = none := by kernel_rfl
@[simp] theorem ty155 : tyOf Tryz.prog 155 = some (true, 2) := by kernel_rfl
@[simp] theorem zav155 : zAV Tryz.prog 155 [Value.slice none 0 0, Value.int IntKind.i64 0] = [.nl 1, .lit (Value.int IntKind.i64 0)] := by kernel_rfl
@[simp] theorem z155 : zeroOf Tryz.prog 155 = some [Value.slice none 0 0, Value.int IntKind.i64 0] := by kernel_rfl
@[simp] theorem fld155_0 : fldOf Tryz.prog 155 0 = some (0, false, 1) := by kernel_rfl
@[simp] theorem fld155_1 : fldOf Tryz.prog 155 1 = some (1, false, 1) := by kernel_rfl
@[simp] theorem pl155 : placesOf Tryz.prog 155 = some [(0, 1), (1, 1)] := by kernel_rfl
@[simp] theorem ty156 : tyOf Tryz.prog 156 = some (true, 2) := by kernel_rfl
@[simp] theorem zav156 : zAV Tryz.prog 156 [Value.slice none 0 0, Value.int IntKind.i64 0] = [.nl 1, .lit (Value.int IntKind.i64 0)] := by kernel_rfl
@[simp] theorem z156 : zeroOf Tryz.prog 156 = some [Value.slice none 0 0, Value.int IntKind.i64 0] := by kernel_rfl
@[simp] theorem fld156_0 : fldOf Tryz.prog 156 0 = some (0, false, 1) := by kernel_rfl
@[simp] theorem fld156_1 : fldOf Tryz.prog 156 1 = some (1, false, 1) := by kernel_rfl
@[simp] theorem pl156 : placesOf Tryz.prog 156 = some [(0, 1), (1, 1)] := by kernel_rfl
@[simp] theorem ty157 : tyOf Tryz.prog 157 = some (false, 1) := by kernel_rfl
@[simp] theorem pl157 : placesOf Tryz.prog 157 = none := by kernel_rfl
@[simp] theorem ty158 : tyOf Tryz.prog 158 = some (false, 1) := by kernel_rfl
@[simp] theorem pl158 : placesOf Tryz.prog 158 = none := by kernel_rfl
@[simp] theorem ty159 : tyOf Tryz.prog 159 = some (false, 1) := by kernel_rfl
@[simp] theorem pl159 : placesOf Tryz.prog 159 = none := by kernel_rfl
@[simp] theorem ty160 : tyOf Tryz.prog 160 = some (false, 1) := by kernel_rfl
@[simp] theorem pl160 : placesOf Tryz.prog 160 = none := by kernel_rfl
@[simp] theorem ty161 : tyOf Tryz.prog 161 = some (false, 1) := by kernel_rfl
@[simp] theorem pl161 : placesOf Tryz.prog 161 = none := by kernel_rfl
@[simp] theorem ty162 : tyOf Tryz.prog 162 = some (false, 1) := by kernel_rfl
@[simp] theorem pl162 : placesOf Tryz.prog 162 = none := by kernel_rfl
@[simp] theorem ty163 : tyOf Tryz.prog 163 = some (false, 1) := by kernel_rfl
@[simp] theorem pl163 : placesOf Tryz.prog 163 = none := by kernel_rfl
@[simp] theorem ty164 : tyOf Tryz.prog 164 = some (false, 1) := by kernel_rfl
@[simp] theorem pl164 : placesOf Tryz.prog 164 = none := by kernel_rfl
@[simp] theorem ty165 : tyOf Tryz.prog 165 = some (true, 4) := by kernel_rfl
@[simp] theorem zav165 : zAV Tryz.prog 165 [Value.int IntKind.i64 0, Value.int IntKind.i64 0, Value.int IntKind.i64 0, Value.int IntKind.i64 0] = [.lit (Value.int IntKind.i64 0), .lit (Value.int IntKind.i64 0), .lit (Value.int IntKind.i64 0), .lit (Value.int IntKind.i64 0)] := by kernel_rfl
@[simp] theorem z165 : zeroOf Tryz.prog 165 = some [Value.int IntKind.i64 0, Value.int IntKind.i64 0, Value.int IntKind.i64 0, Value.int IntKind.i64 0] := by kernel_rfl
@[simp] theorem pl165 : placesOf Tryz.prog 165 = none := by kernel_rfl
@[simp] theorem ar165 : arOf Tryz.prog 165 = some (4, false, 1) := by kernel_rfl
@[simp] theorem nel165 : elOf Tryz.prog 165 = none := by kernel_rfl
@[simp] theorem ty166 : tyOf Tryz.prog 166 = some (false, 1) := by kernel_rfl
@[simp] theorem pl166 : placesOf Tryz.prog 166 = none := by kernel_rfl
@[simp] theorem ty167 : tyOf Tryz.prog 167 = some (false, 1) := by kernel_rfl
@[simp] theorem pl167 : placesOf Tryz.prog 167 = none := by kernel_rfl
@[simp] theorem ty168 : tyOf Tryz.prog 168 = some (false, 1) := by kernel_rfl
@[simp] theorem pl168 : placesOf Tryz.prog 168 = none := by kernel_rfl
@[simp] theorem ty169 : tyOf Tryz.prog 169 = some (false, 1) := by kernel_rfl
@[simp] theorem pl169 : placesOf Tryz.prog 169 = none := by kernel_rfl
@[simp] theorem ty170 : tyOf Tryz.prog 170 = some (false, 1) := by kernel_rfl
@[simp] theorem zav170 : zAV Tryz.prog 170 [Value.tuple #[Value.string { data := #[] }, Value.bool false]] = [.lit (Value.tuple #[Value.string { data := #[] }, Value.bool false])] := by kernel_rfl
@[simp] theorem z170 : zeroOf Tryz.prog 170 = some [Value.tuple #[Value.string { data := #[] }, Value.bool false]] := by kernel_rfl
@[simp] theorem pl170 : placesOf Tryz.prog 170 = none := by kernel_rfl
@[simp] theorem ty171 : tyOf Tryz.prog 171 = some (false, 1) := by kernel_rfl
@[simp] theorem pl171 : placesOf Tryz.prog 171 = none := by kernel_rfl
@[simp] theorem ty172 : tyOf Tryz.prog 172 = some (false, 1) := by kernel_rfl
@[simp] theorem pl172 : placesOf Tryz.prog 172 = none := by kernel_rfl
@[simp] theorem ty173 : tyOf Tryz.prog 173 = some (false, 1) := by kernel_rfl
@[simp] theorem zav173 : zAV Tryz.prog 173 [Value.tuple #[Value.int IntKind.i64 0, Value.bool false]] = [.lit (Value.tuple #[Value.int IntKind.i64 0, Value.bool false])] := by kernel_rfl
@[simp] theorem z173 : zeroOf Tryz.prog 173 = some [Value.tuple #[Value.int IntKind.i64 0, Value.bool false]] := by kernel_rfl
@[simp] theorem pl173 : placesOf Tryz.prog 173 = none := by kernel_rfl
@[simp] theorem ty174 : tyOf Tryz.prog 174 = some (false, 1) := by kernel_rfl
@[simp] theorem pl174 : placesOf Tryz.prog 174 = none := by kernel_rfl
@[simp] theorem ty175 : tyOf Tryz.prog 175 = some (false, 1) := by kernel_rfl
@[simp] theorem pl175 : placesOf Tryz.prog 175 = none := by kernel_rfl
@[simp] theorem ty176 : tyOf Tryz.prog 176 = some (false, 1) := by kernel_rfl
@[simp] theorem zav176 : zAV Tryz.prog 176 [Value.tuple #[Value.slice none 0 0, Value.slice none 0 0, Value.int IntKind.i64 0]] = [.lit (Value.tuple #[Value.slice none 0 0, Value.slice none 0 0, Value.int IntKind.i64 0])] := by kernel_rfl
@[simp] theorem z176 : zeroOf Tryz.prog 176 = some [Value.tuple #[Value.slice none 0 0, Value.slice none 0 0, Value.int IntKind.i64 0]] := by kernel_rfl
@[simp] theorem pl176 : placesOf Tryz.prog 176 = none := by kernel_rfl
@[simp] theorem ty177 : tyOf Tryz.prog 177 = some (false, 1) := by kernel_rfl
@[simp] theorem pl177 : placesOf Tryz.prog 177 = none := by kernel_rfl
@[simp] theorem ty178 : tyOf Tryz.prog 178 = some (false, 1) := by kernel_rfl
@[simp] theorem zav178 : zAV Tryz.prog 178 [Value.int IntKind.u32 0] = [.lit (Value.int IntKind.u32 0)] := by kernel_rfl
@[simp] theorem z178 : zeroOf Tryz.prog 178 = some [Value.int IntKind.u32 0] := by kernel_rfl
@[simp] theorem pl178 : placesOf Tryz.prog 178 = none := by kernel_rfl
@[simp] theorem in178 : intT Tryz.prog 178 = some .u32 := by kernel_rfl
@[simp] theorem un178 : Tryz.prog.underlying 178 = some (.int .u32) := by kernel_rfl
@[simp] theorem ty179 : tyOf Tryz.prog 179 = some (false, 1) := by kernel_rfl
@[simp] theorem zav179 : zAV Tryz.prog 179 [Value.tuple #[Value.int IntKind.u64 0, Value.bool false]] = [.lit (Value.tuple #[Value.int IntKind.u64 0, Value.bool false])] := by kernel_rfl
@[simp] theorem z179 : zeroOf Tryz.prog 179 = some [Value.tuple #[Value.int IntKind.u64 0, Value.bool false]] := by kernel_rfl
@[simp] theorem pl179 : placesOf Tryz.prog 179 = none := by kernel_rfl
@[simp] theorem ty180 : tyOf Tryz.prog 180 = some (false, 1) := by kernel_rfl
@[simp] theorem pl180 : placesOf Tryz.prog 180 = none := by kernel_rfl
@[simp] theorem ty181 : tyOf Tryz.prog 181 = some (false, 1) := by kernel_rfl
@[simp] theorem zav181 : zAV Tryz.prog 181 [Value.int IntKind.u64 0] = [.lit (Value.int IntKind.u64 0)] := by kernel_rfl
@[simp] theorem z181 : zeroOf Tryz.prog 181 = some [Value.int IntKind.u64 0] := by kernel_rfl
@[simp] theorem pl181 : placesOf Tryz.prog 181 = none := by kernel_rfl
@[simp] theorem in181 : intT Tryz.prog 181 = some .u64 := by kernel_rfl
@[simp] theorem un181 : Tryz.prog.underlying 181 = some (.int .u64) := by kernel_rfl
@[simp] theorem ty182 : tyOf Tryz.prog 182 = some (false, 1) := by kernel_rfl
@[simp] theorem pl182 : placesOf Tryz.prog 182 = none := by kernel_rfl
@[simp] theorem ty183 : tyOf Tryz.prog 183 = some (false, 1) := by kernel_rfl
@[simp] theorem pl183 : placesOf Tryz.prog 183 = none := by kernel_rfl
@[simp] theorem ty184 : tyOf Tryz.prog 184 = some (false, 1) := by kernel_rfl
@[simp] theorem zav184 : zAV Tryz.prog 184 [Value.tuple #[Value.agg #[Value.bool false, Value.slice none 0 0], Value.agg #[Value.bool false, Value.slice none 0 0]]] = [.lit (Value.tuple #[Value.agg #[Value.bool false, Value.slice none 0 0], Value.agg #[Value.bool false, Value.slice none 0 0]])] := by kernel_rfl
@[simp] theorem z184 : zeroOf Tryz.prog 184 = some [Value.tuple #[Value.agg #[Value.bool false, Value.slice none 0 0], Value.agg #[Value.bool false, Value.slice none 0 0]]] := by kernel_rfl
@[simp] theorem pl184 : placesOf Tryz.prog 184 = none := by kernel_rfl
@[simp] theorem ty185 : tyOf Tryz.prog 185 = some (false, 1) := by kernel_rfl
@[simp] theorem pl185 : placesOf Tryz.prog 185 = none := by kernel_rfl
@[simp] theorem ty186 : tyOf Tryz.prog 186 = some (false, 1) := by kernel_rfl
@[simp] theorem pl186 : placesOf Tryz.prog 186 = none := by kernel_rfl
@[simp] theorem ty187 : tyOf Tryz.prog 187 = some (false, 1) := by kernel_rfl
@[simp] theorem pl187 : placesOf Tryz.prog 187 = none := by kernel_rfl
@[simp] theorem ty188 : tyOf Tryz.prog 188 = some (false, 1) := by kernel_rfl
@[simp] theorem pl188 : placesOf Tryz.prog 188 = none := by kernel_rfl
@[simp] theorem ty189 : tyOf Tryz.prog 189 = some (false, 1) := by kernel_rfl
@[simp] theorem zav189 : zAV Tryz.prog 189 [Value.pointer none] = [.lit (Value.pointer none)] := by kernel_rfl
@[simp] theorem z189 : zeroOf Tryz.prog 189 = some [Value.pointer none] := by kernel_rfl
@[simp] theorem pl189 : placesOf Tryz.prog 189 = none := by kernel_rfl
@[simp] theorem ty190 : tyOf Tryz.prog 190 = some (false, 1) := by kernel_rfl
@[simp] theorem pl190 : placesOf Tryz.prog 190 = none := by kernel_rfl
@[simp] theorem ty191 : tyOf Tryz.prog 191 = some (false, 1) := by kernel_rfl
@[simp] theorem pl191 : placesOf Tryz.prog 191 = none := by kernel_rfl
@[simp] theorem ty192 : tyOf Tryz.prog 192 = some (false, 1) := by kernel_rfl
@[simp] theorem pl192 : placesOf Tryz.prog 192 = none := by kernel_rfl
@[simp] theorem ty193 : tyOf Tryz.prog 193 = some (false, 1) := by kernel_rfl
@[simp] theorem pl193 : placesOf Tryz.prog 193 = none := by kernel_rfl
@[simp] theorem ty194 : tyOf Tryz.prog 194 = some (false, 1) := by kernel_rfl
@[simp] theorem pl194 : placesOf Tryz.prog 194 = none := by kernel_rfl
@[simp] theorem ty195 : tyOf Tryz.prog 195 = some (false, 1) := by kernel_rfl
@[simp] theorem pl195 : placesOf Tryz.prog 195 = none := by kernel_rfl
@[simp] theorem ty196 : tyOf Tryz.prog 196 = some (false, 1) := by kernel_rfl
@[simp] theorem zav196 : zAV Tryz.prog 196 [Value.slice none 0 0] = [.nl 1] := by kernel_rfl
@[simp] theorem z196 : zeroOf Tryz.prog 196 = some [Value.slice none 0 0] := by kernel_rfl
@[simp] theorem pl196 : placesOf Tryz.prog 196 = none := by kernel_rfl
@[simp] theorem el196 : elOf Tryz.prog 196 = some (9, false, 1, 16, [Value.string { data := #[] }]) := by kernel_rfl
@[simp] theorem ty197 : tyOf Tryz.prog 197 = some (false, 1) := by kernel_rfl
@[simp] theorem pl197 : placesOf Tryz.prog 197 = none := by kernel_rfl
@[simp] theorem ty198 : tyOf Tryz.prog 198 = some (false, 1) := by kernel_rfl
@[simp] theorem pl198 : placesOf Tryz.prog 198 = none := by kernel_rfl
@[simp] theorem ty199 : tyOf Tryz.prog 199 = some (false, 1) := by kernel_rfl
@[simp] theorem pl199 : placesOf Tryz.prog 199 = none := by kernel_rfl
@[simp] theorem ty200 : tyOf Tryz.prog 200 = some (false, 1) := by kernel_rfl
@[simp] theorem pl200 : placesOf Tryz.prog 200 = none := by kernel_rfl
@[simp] theorem ty201 : tyOf Tryz.prog 201 = some (false, 1) := by kernel_rfl
@[simp] theorem pl201 : placesOf Tryz.prog 201 = none := by kernel_rfl
@[simp] theorem ty202 : tyOf Tryz.prog 202 = some (false, 1) := by kernel_rfl
@[simp] theorem zav202 : zAV Tryz.prog 202 [Value.tuple #[Value.slice none 0 0, Value.int IntKind.i64 0]] = [.lit (Value.tuple #[Value.slice none 0 0, Value.int IntKind.i64 0])] := by kernel_rfl
@[simp] theorem z202 : zeroOf Tryz.prog 202 = some [Value.tuple #[Value.slice none 0 0, Value.int IntKind.i64 0]] := by kernel_rfl
@[simp] theorem pl202 : placesOf Tryz.prog 202 = none := by kernel_rfl
@[simp] theorem ty203 : tyOf Tryz.prog 203 = some (false, 1) := by kernel_rfl
@[simp] theorem pl203 : placesOf Tryz.prog 203 = none := by kernel_rfl
@[simp] theorem ty204 : tyOf Tryz.prog 204 = some (false, 1) := by kernel_rfl
@[simp] theorem pl204 : placesOf Tryz.prog 204 = none := by kernel_rfl
@[simp] theorem ty205 : tyOf Tryz.prog 205 = some (false, 1) := by kernel_rfl
@[simp] theorem pl205 : placesOf Tryz.prog 205 = none := by kernel_rfl
@[simp] theorem ty206 : tyOf Tryz.prog 206 = some (false, 1) := by kernel_rfl
@[simp] theorem pl206 : placesOf Tryz.prog 206 = none := by kernel_rfl
@[simp] theorem ty207 : tyOf Tryz.prog 207 = some (false, 1) := by kernel_rfl
@[simp] theorem zav207 : zAV Tryz.prog 207 [Value.tuple #[Value.slice none 0 0, Value.slice none 0 0]] = [.lit (Value.tuple #[Value.slice none 0 0, Value.slice none 0 0])] := by kernel_rfl
@[simp] theorem z207 : zeroOf Tryz.prog 207 = some [Value.tuple #[Value.slice none 0 0, Value.slice none 0 0]] := by kernel_rfl
@[simp] theorem pl207 : placesOf Tryz.prog 207 = none := by kernel_rfl
@[simp] theorem ty208 : tyOf Tryz.prog 208 = some (false, 1) := by kernel_rfl
@[simp] theorem pl208 : placesOf Tryz.prog 208 = none := by kernel_rfl
@[simp] theorem ty209 : tyOf Tryz.prog 209 = some (false, 1) := by kernel_rfl
@[simp] theorem pl209 : placesOf Tryz.prog 209 = none := by kernel_rfl
@[simp] theorem ty210 : tyOf Tryz.prog 210 = some (false, 1) := by kernel_rfl
@[simp] theorem pl210 : placesOf Tryz.prog 210 = none := by kernel_rfl
@[simp] theorem ty211 : tyOf Tryz.prog 211 = some (false, 1) := by kernel_rfl
@[simp] theorem pl211 : placesOf Tryz.prog 211 = none := by kernel_rfl
@[simp] theorem ty212 : tyOf Tryz.prog 212 = some (true, 24) := by kernel_rfl
@[simp] theorem zav212 : zAV Tryz.prog 212 [Value.int IntKind.u8 0, Value.int IntKind.u8 0, Value.int IntKind.u8 0, Value.int IntKind.u8 0, Value.int IntKind.u8 0, Value.int IntKind.u8 0, Value.int IntKind.u8 0, Value.int IntKind.u8 0, Value.int IntKind.u8 0, Value.int IntKind.u8 0, Value.int IntKind.u8 0, Value.int IntKind.u8 0, Value.int IntKind.u8 0, Value.int IntKind.u8 0, Value.int IntKind.u8 0, Value.int IntKind.u8 0, Value.int IntKind.u8 0, Value.int IntKind.u8 0, Value.int IntKind.u8 0, Value.int IntKind.u8 0, Value.int IntKind.u8 0, Value.int IntKind.u8 0, Value.int IntKind.u8 0, Value.int IntKind.u8 0] = [.lit (Value.int IntKind.u8 0), .lit (Value.int IntKind.u8 0), .lit (Value.int IntKind.u8 0), .lit (Value.int IntKind.u8 0), .lit (Value.int IntKind.u8 0), .lit (Value.int IntKind.u8 0), .lit (Value.int IntKind.u8 0), .lit (Value.int IntKind.u8 0), .lit (Value.int IntKind.u8 0), .lit (Value.int IntKind.u8 0), .lit (Value.int IntKind.u8 0), .lit (Value.int IntKind.u8 0), .lit (Value.int IntKind.u8 0), .lit (Value.int IntKind.u8 0), .lit (Value.int IntKind.u8 0), .lit (Value.int IntKind.u8 0), .lit (Value.int IntKind.u8 0), .lit (Value.int IntKind.u8 0), .lit (Value.int IntKind.u8 0), .lit (Value.int IntKind.u8 0), .lit (Value.int IntKind.u8 0), .lit (Value.int IntKind.u8 0), .lit (Value.int IntKind.u8 0), .lit (Value.int IntKind.u8 0)] := by kernel_rfl
@[simp] theorem z212 : zeroOf Tryz.prog 212 = some [Value.int IntKind.u8 0, Value.int IntKind.u8 0, Value.int IntKind.u8 0, Value.int IntKind.u8 0, Value.int IntKind.u8 0, Value.int IntKind.u8 0, Value.int IntKind.u8 0, Value.int IntKind.u8 0, Value.int IntKind.u8 0, Value.int IntKind.u8 0, Value.int IntKind.u8 0, Value.int IntKind.u8 0, Value.int IntKind.u8 0, Value.int IntKind.u8 0, Value.int IntKind.u8 0, Value.int IntKind.u8 0, Value.int IntKind.u8 0, Value.int IntKind.u8 0, Value.int IntKind.u8 0, Value.int IntKind.u8 0, Value.int IntKind.u8 0, Value.int IntKind.u8 0, Value.int IntKind.u8 0, Value.int IntKind.u8 0] := by kernel_rfl
@[simp] theorem pl212 : placesOf Tryz.prog 212 = none := by kernel_rfl
@[simp] theorem ar212 : arOf Tryz.prog 212 = some (24, false, 1) := by kernel_rfl
@[simp] theorem nel212 : elOf Tryz.prog 212 = none := by kernel_rfl
@[simp] theorem ty213 : tyOf Tryz.prog 213 = some (false, 1) := by kernel_rfl
@[simp] theorem pl213 : placesOf Tryz.prog 213 = none := by kernel_rfl
@[simp] theorem ty214 : tyOf Tryz.prog 214 = some (false, 1) := by kernel_rfl
@[simp] theorem pl214 : placesOf Tryz.prog 214 = none := by kernel_rfl
@[simp] theorem ty215 : tyOf Tryz.prog 215 = some (false, 1) := by kernel_rfl
@[simp] theorem zav215 : zAV Tryz.prog 215 [Value.tuple #[Value.slice none 0 0, Value.string { data := #[] }]] = [.lit (Value.tuple #[Value.slice none 0 0, Value.string { data := #[] }])] := by kernel_rfl
@[simp] theorem z215 : zeroOf Tryz.prog 215 = some [Value.tuple #[Value.slice none 0 0, Value.string { data := #[] }]] := by kernel_rfl
@[simp] theorem pl215 : placesOf Tryz.prog 215 = none := by kernel_rfl
@[simp] theorem ty216 : tyOf Tryz.prog 216 = some (false, 1) := by kernel_rfl
@[simp] theorem pl216 : placesOf Tryz.prog 216 = none := by kernel_rfl
@[simp] theorem ty217 : tyOf Tryz.prog 217 = some (false, 1) := by kernel_rfl
@[simp] theorem pl217 : placesOf Tryz.prog 217 = none := by kernel_rfl
@[simp] theorem ty218 : tyOf Tryz.prog 218 = some (false, 1) := by kernel_rfl
@[simp] theorem zav218 : zAV Tryz.prog 218 [Value.tuple #[Value.int IntKind.u64 0, Value.int IntKind.u64 0]] = [.lit (Value.tuple #[Value.int IntKind.u64 0, Value.int IntKind.u64 0])] := by kernel_rfl
@[simp] theorem z218 : zeroOf Tryz.prog 218 = some [Value.tuple #[Value.int IntKind.u64 0, Value.int IntKind.u64 0]] := by kernel_rfl
@[simp] theorem pl218 : placesOf Tryz.prog 218 = none := by kernel_rfl
@[simp] theorem ty219 : tyOf Tryz.prog 219 = some (false, 1) := by kernel_rfl
@[simp] theorem pl219 : placesOf Tryz.prog 219 = none := by kernel_rfl
@[simp] theorem ty220 : tyOf Tryz.prog 220 = some (false, 1) := by kernel_rfl
@[simp] theorem pl220 : placesOf Tryz.prog 220 = none := by kernel_rfl
@[simp] theorem ty221 : tyOf Tryz.prog 221 = some (false, 1) := by kernel_rfl
@[simp] theorem pl221 : placesOf Tryz.prog 221 = none := by kernel_rfl
@[simp] theorem ty222 : tyOf Tryz.prog 222 = some (false, 1) := by kernel_rfl
@[simp] theorem pl222 : placesOf Tryz.prog 222 = none := by kernel_rfl
@[simp] theorem ty223 : tyOf Tryz.prog 223 = some (false, 1) := by kernel_rfl
@[simp] theorem pl223 : placesOf Tryz.prog 223 = none := by kernel_rfl
@[simp] theorem ty224 : tyOf Tryz.prog 224 = some (true, 20) := by kernel_rfl
@[simp] theorem zav224 : zAV Tryz.prog 224 [Value.int IntKind.u64 0, Value.int IntKind.u64 0, Value.int IntKind.u64 0, Value.int IntKind.u64 0, Value.int IntKind.u64 0, Value.int IntKind.u64 0, Value.int IntKind.u64 0, Value.int IntKind.u64 0, Value.int IntKind.u64 0, Value.int IntKind.u64 0, Value.int IntKind.u64 0, Value.int IntKind.u64 0, Value.int IntKind.u64 0, Value.int IntKind.u64 0, Value.int IntKind.u64 0, Value.int IntKind.u64 0, Value.int IntKind.u64 0, Value.int IntKind.u64 0, Value.int IntKind.u64 0, Value.int IntKind.u64 0] = [.lit (Value.int IntKind.u64 0), .lit (Value.int IntKind.u64 0), .lit (Value.int IntKind.u64 0), .lit (Value.int IntKind.u64 0), .lit (Value.int IntKind.u64 0), .lit (Value.int IntKind.u64 0), .lit (Value.int IntKind.u64 0), .lit (Value.int IntKind.u64 0), .lit (Value.int IntKind.u64 0), .lit (Value.int IntKind.u64 0), .lit (Value.int IntKind.u64 0), .lit (Value.int IntKind.u64 0), .lit (Value.int IntKind.u64 0), .lit (Value.int IntKind.u64 0), .lit (Value.int IntKind.u64 0), .lit (Value.int IntKind.u64 0), .lit (Value.int IntKind.u64 0), .lit (Value.int IntKind.u64 0), .lit (Value.int IntKind.u64 0), .lit (Value.int IntKind.u64 0)] := by kernel_rfl
@[simp] theorem z224 : zeroOf Tryz.prog 224 = some [Value.int IntKind.u64 0, Value.int IntKind.u64 0, Value.int IntKind.u64 0, Value.int IntKind.u64 0, Value.int IntKind.u64 0, Value.int IntKind.u64 0, Value.int IntKind.u64 0, Value.int IntKind.u64 0, Value.int IntKind.u64 0, Value.int IntKind.u64 0, Value.int IntKind.u64 0, Value.int IntKind.u64 0, Value.int IntKind.u64 0, Value.int IntKind.u64 0, Value.int IntKind.u64 0, Value.int IntKind.u64 0, Value.int IntKind.u64 0, Value.int IntKind.u64 0, Value.int IntKind.u64 0, Value.int IntKind.u64 0] := by kernel_rfl
@[simp] theorem pl224 : placesOf Tryz.prog 224 = none := by kernel_rfl
@[simp] theorem ar224 : arOf Tryz.prog 224 = some (20, false, 1) := by kernel_rfl
@[simp] theorem nel224 : elOf Tryz.prog 224 = none := by kernel_rfl
@[simp] theorem ty225 : tyOf Tryz.prog 225 = some (true, 65) := by kernel_rfl
@[simp] theorem pl225 : placesOf Tryz.prog 225 = none := by kernel_rfl
@[simp] theorem ar225 : arOf Tryz.prog 225 = some (65, false, 1) := by kernel_rfl
@[simp] theorem nel225 : elOf Tryz.prog 225 = none := by kernel_rfl
@[simp] theorem ty226 : tyOf Tryz.prog 226 = some (false, 1) := by kernel_rfl
@[simp] theorem pl226 : placesOf Tryz.prog 226 = none := by kernel_rfl
@[simp] theorem ty227 : tyOf Tryz.prog 227 = some (false, 1) := by kernel_rfl
@[simp] theorem pl227 : placesOf Tryz.prog 227 = none := by kernel_rfl
@[simp] theorem ty228 : tyOf Tryz.prog 228 = some (false, 1) := by kernel_rfl
@[simp] theorem zav228 : zAV Tryz.prog 228 [Value.tuple #[Value.int IntKind.u32 0, Value.int IntKind.u32 0]] = [.lit (Value.tuple #[Value.int IntKind.u32 0, Value.int IntKind.u32 0])] := by kernel_rfl
@[simp] theorem z228 : zeroOf Tryz.prog 228 = some [Value.tuple #[Value.int IntKind.u32 0, Value.int IntKind.u32 0]] := by kernel_rfl
@[simp] theorem pl228 : placesOf Tryz.prog 228 = none := by kernel_rfl
@[simp] theorem ty229 : tyOf Tryz.prog 229 = some (false, 1) := by kernel_rfl
@[simp] theorem pl229 : placesOf Tryz.prog 229 = none := by kernel_rfl
@[simp] theorem ty230 : tyOf Tryz.prog 230 = some (false, 1) := by kernel_rfl
@[simp] theorem zav230 : zAV Tryz.prog 230 [Value.tuple #[Value.int IntKind.u64 0, Value.int IntKind.u64 0]] = [.lit (Value.tuple #[Value.int IntKind.u64 0, Value.int IntKind.u64 0])] := by kernel_rfl
@[simp] theorem z230 : zeroOf Tryz.prog 230 = some [Value.tuple #[Value.int IntKind.u64 0, Value.int IntKind.u64 0]] := by kernel_rfl
@[simp] theorem pl230 : placesOf Tryz.prog 230 = none := by kernel_rfl
@[simp] theorem ty231 : tyOf Tryz.prog 231 = some (false, 1) := by kernel_rfl
@[simp] theorem pl231 : placesOf Tryz.prog 231 = none := by kernel_rfl
@[simp] theorem ty232 : tyOf Tryz.prog 232 = some (false, 1) := by kernel_rfl
@[simp] theorem zav232 : zAV Tryz.prog 232 [Value.int IntKind.i64 0] = [.lit (Value.int IntKind.i64 0)] := by kernel_rfl
@[simp] theorem z232 : zeroOf Tryz.prog 232 = some [Value.int IntKind.i64 0] := by kernel_rfl
@[simp] theorem pl232 : placesOf Tryz.prog 232 = none := by kernel_rfl
@[simp] theorem in232 : intT Tryz.prog 232 = some .i64 := by kernel_rfl
@[simp] theorem un232 : Tryz.prog.underlying 232 = some (.int .i64) := by kernel_rfl
@[simp] theorem ty233 : tyOf Tryz.prog 233 = some (false, 1) := by kernel_rfl
@[simp] theorem zav233 : zAV Tryz.prog 233 [Value.tuple #[Value.int IntKind.i64 0, Value.nilIface]] = [.lit (Value.tuple #[Value.int IntKind.i64 0, Value.nilIface])] := by kernel_rfl
@[simp] theorem z233 : zeroOf Tryz.prog 233 = some [Value.tuple #[Value.int IntKind.i64 0, Value.nilIface]] := by kernel_rfl
@[simp] theorem pl233 : placesOf Tryz.prog 233 = none := by kernel_rfl
@[simp] theorem ty234 : tyOf Tryz.prog 234 = some (false, 1) := by kernel_rfl
@[simp] theorem pl234 : placesOf Tryz.prog 234 = none := by kernel_rfl
@[simp] theorem ty235 : tyOf Tryz.prog 235 = some (false, 1) := by kernel_rfl
@[simp] theorem zav235 : zAV Tryz.prog 235 [Value.pointer none] = [.lit (Value.pointer none)] := by kernel_rfl
@[simp] theorem z235 : zeroOf Tryz.prog 235 = some [Value.pointer none] := by kernel_rfl
@[simp] theorem pl235 : placesOf Tryz.prog 235 = none := by kernel_rfl
@[simp] theorem pt235 : ptT Tryz.prog 235 = some 243 := by kernel_rfl
@[simp] theorem ty236 : tyOf Tryz.prog 236 = some (false, 1) := by kernel_rfl
@[simp] theorem pl236 : placesOf Tryz.prog 236 = none := by kernel_rfl
@[simp] theorem ty237 : tyOf Tryz.prog 237 = some (false, 1) := by kernel_rfl
@[simp] theorem pl237 : placesOf Tryz.prog 237 = none := by kernel_rfl
@[simp] theorem ty238 : tyOf Tryz.prog 238 = some (false, 1) := by kernel_rfl
@[simp] theorem pl238 : placesOf Tryz.prog 238 = none := by kernel_rfl
@[simp] theorem ty239 : tyOf Tryz.prog 239 = some (false, 1) := by kernel_rfl
@[simp] theorem zav239 : zAV Tryz.prog 239 [Value.tuple #[Value.int IntKind.u64 0, Value.nilIface]] = [.lit (Value.tuple #[Value.int IntKind.u64 0, Value.nilIface])] := by kernel_rfl
@[simp] theorem z239 : zeroOf Tryz.prog 239 = some [Value.tuple #[Value.int IntKind.u64 0, Value.nilIface]] := by kernel_rfl
@[simp] theorem pl239 : placesOf Tryz.prog 239 = none := by kernel_rfl
@[simp] theorem ty240 : tyOf Tryz.prog 240 = some (false, 1) := by kernel_rfl
@[simp] theorem pl240 : placesOf Tryz.prog 240 = none := by kernel_rfl
@[simp] theorem ty241 : tyOf Tryz.prog 241 = some (false, 1) := by kernel_rfl
@[simp] theorem pl241 : placesOf Tryz.prog 241 = none := by kernel_rfl
@[simp] theorem ty242 : tyOf Tryz.prog 242 = some (true, 3) := by kernel_rfl
@[simp] theorem zav242 : zAV Tryz.prog 242 [Value.string { data := #[] }, Value.string { data := #[] }, Value.nilIface] = [.lit (Value.string { data := #[] }), .lit (Value.string { data := #[] }), .lit (Value.nilIface)] := by kernel_rfl
@[simp] theorem z242 : zeroOf Tryz.prog 242 = some [Value.string { data := #[] }, Value.string { data := #[] }, Value.nilIface] := by kernel_rfl
@[simp] theorem fld242_0 : fldOf Tryz.prog 242 0 = some (0, false, 1) := by kernel_rfl
@[simp] theorem fld242_1 : fldOf Tryz.prog 242 1 = some (1, false, 1) := by kernel_rfl
@[simp] theorem fld242_2 : fldOf Tryz.prog 242 2 = some (2, false, 1) := by kernel_rfl
@[simp] theorem pl242 : placesOf Tryz.prog 242 = some [(0, 1), (1, 1), (2, 1)] := by kernel_rfl
@[simp] theorem ty243 : tyOf Tryz.prog 243 = some (true, 3) := by kernel_rfl
@[simp] theorem zav243 : zAV Tryz.prog 243 [Value.string { data := #[] }, Value.string { data := #[] }, Value.nilIface] = [.lit (Value.string { data := #[] }), .lit (Value.string { data := #[] }), .lit (Value.nilIface)] := by kernel_rfl
@[simp] theorem z243 : zeroOf Tryz.prog 243 = some [Value.string { data := #[] }, Value.string { data := #[] }, Value.nilIface] := by kernel_rfl
@[simp] theorem fld243_0 : fldOf Tryz.prog 243 0 = some (0, false, 1) := by kernel_rfl
@[simp] theorem fld243_1 : fldOf Tryz.prog 243 1 = some (1, false, 1) := by kernel_rfl
@[simp] theorem fld243_2 : fldOf Tryz.prog 243 2 = some (2, false, 1) := by kernel_rfl
@[simp] theorem pl243 : placesOf Tryz.prog 243 = some [(0, 1), (1, 1), (2, 1)] := by kernel_rfl
@[simp] theorem ty244 : tyOf Tryz.prog 244 = some (false, 1) := by kernel_rfl
@[simp] theorem pl244 : placesOf Tryz.prog 244 = none := by kernel_rfl
@[simp] theorem ty245 : tyOf Tryz.prog 245 = some (true, 32) := by kernel_rfl
@[simp] theorem zav245 : zAV Tryz.prog 245 [Value.int IntKind.u8 0, Value.int IntKind.u8 0, Value.int IntKind.u8 0, Value.int IntKind.u8 0, Value.int IntKind.u8 0, Value.int IntKind.u8 0, Value.int IntKind.u8 0, Value.int IntKind.u8 0, Value.int IntKind.u8 0, Value.int IntKind.u8 0, Value.int IntKind.u8 0, Value.int IntKind.u8 0, Value.int IntKind.u8 0, Value.int IntKind.u8 0, Value.int IntKind.u8 0, Value.int IntKind.u8 0, Value.int IntKind.u8 0, Value.int IntKind.u8 0, Value.int IntKind.u8 0, Value.int IntKind.u8 0, Value.int IntKind.u8 0, Value.int IntKind.u8 0, Value.int IntKind.u8 0, Value.int IntKind.u8 0, Value.int IntKind.u8 0, Value.int IntKind.u8 0, Value.int IntKind.u8 0, Value.int IntKind.u8 0, Value.int IntKind.u8 0, Value.int IntKind.u8 0, Value.int IntKind.u8 0, Value.int IntKind.u8 0] = [.lit (Value.int IntKind.u8 0), .lit (Value.int IntKind.u8 0), .lit (Value.int IntKind.u8 0), .lit (Value.int IntKind.u8 0), .lit (Value.int IntKind.u8 0), .lit (Value.int IntKind.u8 0), .lit (Value.int IntKind.u8 0), .lit (Value.int IntKind.u8 0), .lit (Value.int IntKind.u8 0), .lit (Value.int IntKind.u8 0), .lit (Value.int IntKind.u8 0), .lit (Value.int IntKind.u8 0), .lit (Value.int IntKind.u8 0), .lit (Value.int IntKind.u8 0), .lit (Value.int IntKind.u8 0), .lit (Value.int IntKind.u8 0), .lit (Value.int IntKind.u8 0), .lit (Value.int IntKind.u8 0), .lit (Value.int IntKind.u8 0), .lit (Value.int IntKind.u8 0), .lit (Value.int IntKind.u8 0), .lit (Value.int IntKind.u8 0), .lit (Value.int IntKind.u8 0), .lit (Value.int IntKind.u8 0), .lit (Value.int IntKind.u8 0), .lit (Value.int IntKind.u8 0), .lit (Value.int IntKind.u8 0), .lit (Value.int IntKind.u8 0), .lit (Value.int IntKind.u8 0), .lit (Value.int IntKind.u8 0), .lit (Value.int IntKind.u8 0), .lit (Value.int IntKind.u8 0)] := by kernel_rfl
@[simp] theorem z245 : zeroOf Tryz.prog 245 = some [Value.int IntKind.u8 0, Value.int IntKind.u8 0, Value.int IntKind.u8 0, Value.int IntKind.u8 0, Value.int IntKind.u8 0, Value.int IntKind.u8 0, Value.int IntKind.u8 0, Value.int IntKind.u8 0, Value.int IntKind.u8 0, Value.int IntKind.u8 0, Value.int IntKind.u8 0, Value.int IntKind.u8 0, Value.int IntKind.u8 0, Value.int IntKind.u8 0, Value.int IntKind.u8 0, Value.int IntKind.u8 0, Value.int IntKind.u8 0, Value.int IntKind.u8 0, Value.int IntKind.u8 0, Value.int IntKind.u8 0, Value.int IntKind.u8 0, Value.int IntKind.u8 0, Value.int IntKind.u8 0, Value.int IntKind.u8 0, Value.int IntKind.u8 0, Value.int IntKind.u8 0, Value.int IntKind.u8 0, Value.int IntKind.u8 0, Value.int IntKind.u8 0, Value.int IntKind.u8 0, Value.int IntKind.u8 0, Value.int IntKind.u8 0] := by kernel_rfl
@[simp] theorem pl245 : placesOf Tryz.prog 245 = none := by kernel_rfl
@[simp] theorem ar245 : arOf Tryz.prog 245 = some (32, false, 1) := by kernel_rfl
@[simp] theorem nel245 : elOf Tryz.prog 245 = none := by kernel_rfl
@[simp] theorem ty246 : tyOf Tryz.prog 246 = some (true, 64) := by kernel_rfl
@[simp] theorem pl246 : placesOf Tryz.prog 246 = none := by kernel_rfl
@[simp] theorem ar246 : arOf Tryz.prog 246 = some (64, false, 1) := by kernel_rfl
@[simp] theorem nel246 : elOf Tryz.prog 246 = none := by kernel_rfl
@[simp] theorem ty247 : tyOf Tryz.prog 247 = some (false, 1) := by kernel_rfl
@[simp] theorem pl247 : placesOf Tryz.prog 247 = none := by kernel_rfl
@[simp] theorem ty248 : tyOf Tryz.prog 248 = some (false, 1) := by kernel_rfl
@[simp] theorem zav248 : zAV Tryz.prog 248 [Value.pointer none] = [.lit (Value.pointer none)] := by kernel_rfl
@[simp] theorem z248 : zeroOf Tryz.prog 248 = some [Value.pointer none] := by kernel_rfl
@[simp] theorem pl248 : placesOf Tryz.prog 248 = none := by kernel_rfl
@[simp] theorem pt248 : ptT Tryz.prog 248 = some 250 := by kernel_rfl
@[simp] theorem ty249 : tyOf Tryz.prog 249 = some (true, 1) := by kernel_rfl
@[simp] theorem zav249 : zAV Tryz.prog 249 [Value.string { data := #[] }] = [.lit (Value.string { data := #[] })] := by kernel_rfl
@[simp] theorem z249 : zeroOf Tryz.prog 249 = some [Value.string { data := #[] }] := by kernel_rfl
@[simp] theorem fld249_0 : fldOf Tryz.prog 249 0 = some (0, false, 1) := by kernel_rfl
@[simp] theorem pl249 : placesOf Tryz.prog 249 = some [(0, 1)] := by kernel_rfl
@[simp] theorem ty250 : tyOf Tryz.prog 250 = some (true, 1) := by kernel_rfl
@[simp] theorem zav250 : zAV Tryz.prog 250 [Value.string { data := #[] }] = [.lit (Value.string { data := #[] })] := by kernel_rfl
@[simp] theorem z250 : zeroOf Tryz.prog 250 = some [Value.string { data := #[] }] := by kernel_rfl
@[simp] theorem fld250_0 : fldOf Tryz.prog 250 0 = some (0, false, 1) := by kernel_rfl
@[simp] theorem pl250 : placesOf Tryz.prog 250 = some [(0, 1)] := by kernel_rfl
@[simp] theorem ty251 : tyOf Tryz.prog 251 = some (true, 4) := by kernel_rfl
@[simp] theorem zav251 : zAV Tryz.prog 251 [Value.pointer none, Value.pointer none, Value.pointer none, Value.string { data := #[] }] = [.lit (Value.pointer none), .lit (Value.pointer none), .lit (Value.pointer none), .lit (Value.string { data := #[] })] := by kernel_rfl
@[simp] theorem z251 : zeroOf Tryz.prog 251 = some [Value.pointer none, Value.pointer none, Value.pointer none, Value.string { data := #[] }] := by kernel_rfl
@[simp] theorem fld251_0 : fldOf Tryz.prog 251 0 = some (0, false, 1) := by kernel_rfl
@[simp] theorem fld251_1 : fldOf Tryz.prog 251 1 = some (1, false, 1) := by kernel_rfl
@[simp] theorem fld251_2 : fldOf Tryz.prog 251 2 = some (2, false, 1) := by kernel_rfl
@[simp] theorem fld251_3 : fldOf Tryz.prog 251 3 = some (3, false, 1) := by kernel_rfl
@[simp] theorem pl251 : placesOf Tryz.prog 251 = some [(0, 1), (1, 1), (2, 1), (3, 1)] := by kernel_rfl
@[simp] theorem ty252 : tyOf Tryz.prog 252 = some (true, 4) := by kernel_rfl
@[simp] theorem zav252 : zAV Tryz.prog 252 [Value.pointer none, Value.pointer none, Value.pointer none, Value.string { data := #[] }] = [.lit (Value.pointer none), .lit (Value.pointer none), .lit (Value.pointer none), .lit (Value.string { data := #[] })] := by kernel_rfl
@[simp] theorem z252 : zeroOf Tryz.prog 252 = some [Value.pointer none, Value.pointer none, Value.pointer none, Value.string { data := #[] }] := by kernel_rfl
@[simp] theorem fld252_0 : fldOf Tryz.prog 252 0 = some (0, false, 1) := by kernel_rfl
@[simp] theorem fld252_1 : fldOf Tryz.prog 252 1 = some (1, false, 1) := by kernel_rfl
@[simp] theorem fld252_2 : fldOf Tryz.prog 252 2 = some (2, false, 1) := by kernel_rfl
@[simp] theorem fld252_3 : fldOf Tryz.prog 252 3 = some (3, false, 1) := by kernel_rfl
@[simp] theorem pl252 : placesOf Tryz.prog 252 = some [(0, 1), (1, 1), (2, 1), (3, 1)] := by kernel_rfl
@[simp] theorem ty253 : tyOf Tryz.prog 253 = some (true, 0) := by kernel_rfl
@[simp] theorem zav253 : zAV Tryz.prog 253 [] = [] := by kernel_rfl
@[simp] theorem z253 : zeroOf Tryz.prog 253 = some [] := by kernel_rfl
@[simp] theorem pl253 : placesOf Tryz.prog 253 = none := by kernel_rfl
@[simp] theorem ar253 : arOf Tryz.prog 253 = some (0, false, 1) := by kernel_rfl
@[simp] theorem nel253 : elOf Tryz.prog 253 = none := by kernel_rfl
@[simp] theorem ty254 : tyOf Tryz.prog 254 = some (true, 0) := by kernel_rfl
@[simp] theorem zav254 : zAV Tryz.prog 254 [] = [] := by kernel_rfl
@[simp] theorem z254 : zeroOf Tryz.prog 254 = some [] := by kernel_rfl
@[simp] theorem fld254_0 : fldOf Tryz.prog 254 0 = some (0, true, 0) := by kernel_rfl
@[simp] theorem pl254 : placesOf Tryz.prog 254 = some [(0, 0)] := by kernel_rfl
@[simp] theorem ty255 : tyOf Tryz.prog 255 = some (true, 0) := by kernel_rfl
@[simp] theorem zav255 : zAV Tryz.prog 255 [] = [] := by kernel_rfl
@[simp] theorem z255 : zeroOf Tryz.prog 255 = some [] := by kernel_rfl
@[simp] theorem fld255_0 : fldOf Tryz.prog 255 0 = some (0, true, 0) := by kernel_rfl
@[simp] theorem pl255 : placesOf Tryz.prog 255 = some [(0, 0)] := by kernel_rfl
@[simp] theorem ty256 : tyOf Tryz.prog 256 = some (false, 1) := by kernel_rfl
@[simp] theorem zav256 : zAV Tryz.prog 256 [Value.int IntKind.u8 0] = [.lit (Value.int IntKind.u8 0)] := by kernel_rfl
@[simp] theorem z256 : zeroOf Tryz.prog 256 = some [Value.int IntKind.u8 0] := by kernel_rfl
@[simp] theorem pl256 : placesOf Tryz.prog 256 = none := by kernel_rfl
@[simp] theorem in256 : intT Tryz.prog 256 = some .u8 := by kernel_rfl
@[simp] theorem un256 : Tryz.prog.underlying 256 = some (.int .u8) := by kernel_rfl
@[simp] theorem ty257 : tyOf Tryz.prog 257 = some (false, 1) := by kernel_rfl
@[simp] theorem zav257 : zAV Tryz.prog 257 [Value.int IntKind.u8 0] = [.lit (Value.int IntKind.u8 0)] := by kernel_rfl
@[simp] theorem z257 : zeroOf Tryz.prog 257 = some [Value.int IntKind.u8 0] := by kernel_rfl
@[simp] theorem pl257 : placesOf Tryz.prog 257 = none := by kernel_rfl
@[simp] theorem in257 : intT Tryz.prog 257 = some .u8 := by kernel_rfl
@[simp] theorem un257 : Tryz.prog.underlying 257 = some (.int .u8) := by kernel_rfl
@[simp] theorem ty258 : tyOf Tryz.prog 258 = some (false, 1) := by kernel_rfl
@[simp] theorem pl258 : placesOf Tryz.prog 258 = none := by kernel_rfl
@[simp] theorem ty259 : tyOf Tryz.prog 259 = some (false, 1) := by kernel_rfl
@[simp] theorem zav259 : zAV Tryz.prog 259 [Value.int IntKind.i32 0] = [.lit (Value.int IntKind.i32 0)] := by kernel_rfl
@[simp] theorem z259 : zeroOf Tryz.prog 259 = some [Value.int IntKind.i32 0] := by kernel_rfl
@[simp] theorem pl259 : placesOf Tryz.prog 259 = none := by kernel_rfl
@[simp] theorem in259 : intT Tryz.prog 259 = some .i32 := by kernel_rfl
@[simp] theorem un259 : Tryz.prog.underlying 259 = some (.int .i32) := by kernel_rfl
@[simp] theorem ty260 : tyOf Tryz.prog 260 = some (false, 1) := by kernel_rfl
@[simp] theorem zav260 : zAV Tryz.prog 260 [Value.int IntKind.i32 0] = [.lit (Value.int IntKind.i32 0)] := by kernel_rfl
@[simp] theorem z260 : zeroOf Tryz.prog 260 = some [Value.int IntKind.i32 0] := by kernel_rfl
@[simp] theorem pl260 : placesOf Tryz.prog 260 = none := by kernel_rfl
@[simp] theorem in260 : intT Tryz.prog 260 = some .i32 := by kernel_rfl
@[simp] theorem un260 : Tryz.prog.underlying 260 = some (.int .i32) := by kernel_rfl
@[simp] theorem ty261 : tyOf Tryz.prog 261 = some (true, 11) := by kernel_rfl
@[simp] theorem zav261 : zAV Tryz.prog 261 [Value.int IntKind.u64 0, Value.int IntKind.u64 0, Value.int IntKind.u32 0, Value.int IntKind.u8 0, Value.int IntKind.u8 0, Value.int IntKind.u8 0, Value.int IntKind.u8 0, Value.nilFunc, Value.pointer none, Value.int IntKind.i32 0, Value.int IntKind.i32 0] = [.lit (Value.int IntKind.u64 0), .lit (Value.int IntKind.u64 0), .lit (Value.int IntKind.u32 0), .lit (Value.int IntKind.u8 0), .lit (Value.int IntKind.u8 0), .lit (Value.int IntKind.u8 0), .lit (Value.int IntKind.u8 0), .lit (Value.nilFunc), .lit (Value.pointer none), .lit (Value.int IntKind.i32 0), .lit (Value.int IntKind.i32 0)] := by kernel_rfl
@[simp] theorem z261 : zeroOf Tryz.prog 261 = some [Value.int IntKind.u64 0, Value.int IntKind.u64 0, Value.int IntKind.u32 0, Value.int IntKind.u8 0, Value.int IntKind.u8 0, Value.int IntKind.u8 0, Value.int IntKind.u8 0, Value.nilFunc, Value.pointer none, Value.int IntKind.i32 0, Value.int IntKind.i32 0] := by kernel_rfl
@[simp] theorem fld261_0 : fldOf Tryz.prog 261 0 = some (0, false, 1) := by kernel_rfl
@[simp] theorem fld261_1 : fldOf Tryz.prog 261 1 = some (1, false, 1) := by kernel_rfl
@[simp] theorem fld261_2 : fldOf Tryz.prog 261 2 = some (2, false, 1) := by kernel_rfl
@[simp] theorem fld261_3 : fldOf Tryz.prog 261 3 = some (3, false, 1) := by kernel_rfl
@[simp] theorem fld261_4 : fldOf Tryz.prog 261 4 = some (4, false, 1) := by kernel_rfl
@[simp] theorem fld261_5 : fldOf Tryz.prog 261 5 = some (5, false, 1) := by kernel_rfl
@[simp] theorem fld261_6 : fldOf Tryz.prog 261 6 = some (6, false, 1) := by kernel_rfl
@[simp] theorem fld261_7 : fldOf Tryz.prog 261 7 = some (7, false, 1) := by kernel_rfl
@[simp] theorem fld261_8 : fldOf Tryz.prog 261 8 = some (8, false, 1) := by kernel_rfl
@[simp] theorem fld261_9 : fldOf Tryz.prog 261 9 = some (9, false, 1) := by kernel_rfl
@[simp] theorem fld261_10 : fldOf Tryz.prog 261 10 = some (10, false, 1) := by kernel_rfl
@[simp] theorem pl261 : placesOf Tryz.prog 261 = some [(0, 1), (1, 1), (2, 1), (3, 1), (4, 1), (5, 1), (6, 1), (7, 1), (8, 1), (9, 1), (10, 1)] := by kernel_rfl
@[simp] theorem ty262 : tyOf Tryz.prog 262 = some (true, 11) := by kernel_rfl
@[simp] theorem zav262 : zAV Tryz.prog 262 [Value.int IntKind.u64 0, Value.int IntKind.u64 0, Value.int IntKind.u32 0, Value.int IntKind.u8 0, Value.int IntKind.u8 0, Value.int IntKind.u8 0, Value.int IntKind.u8 0, Value.nilFunc, Value.pointer none, Value.int IntKind.i32 0, Value.int IntKind.i32 0] = [.lit (Value.int IntKind.u64 0), .lit (Value.int IntKind.u64 0), .lit (Value.int IntKind.u32 0), .lit (Value.int IntKind.u8 0), .lit (Value.int IntKind.u8 0), .lit (Value.int IntKind.u8 0), .lit (Value.int IntKind.u8 0), .lit (Value.nilFunc), .lit (Value.pointer none), .lit (Value.int IntKind.i32 0), .lit (Value.int IntKind.i32 0)] := by kernel_rfl
@[simp] theorem z262 : zeroOf Tryz.prog 262 = some [Value.int IntKind.u64 0, Value.int IntKind.u64 0, Value.int IntKind.u32 0, Value.int IntKind.u8 0, Value.int IntKind.u8 0, Value.int IntKind.u8 0, Value.int IntKind.u8 0, Value.nilFunc, Value.pointer none, Value.int IntKind.i32 0, Value.int IntKind.i32 0] := by kernel_rfl
@[simp] theorem fld262_0 : fldOf Tryz.prog 262 0 = some (0, false, 1) := by kernel_rfl
@[simp] theorem fld262_1 : fldOf Tryz.prog 262 1 = some (1, false, 1) := by kernel_rfl
@[simp] theorem fld262_2 : fldOf Tryz.prog 262 2 = some (2, false, 1) := by kernel_rfl
@[simp] theorem fld262_3 : fldOf Tryz.prog 262 3 = some (3, false, 1) := by kernel_rfl
@[simp] theorem fld262_4 : fldOf Tryz.prog 262 4 = some (4, false, 1) := by kernel_rfl
@[simp] theorem fld262_5 : fldOf Tryz.prog 262 5 = some (5, false, 1) := by kernel_rfl
@[simp] theorem fld262_6 : fldOf Tryz.prog 262 6 = some (6, false, 1) := by kernel_rfl
@[simp] theorem fld262_7 : fldOf Tryz.prog 262 7 = some (7, false, 1) := by kernel_rfl
@[simp] theorem fld262_8 : fldOf Tryz.prog 262 8 = some (8, false, 1) := by kernel_rfl
@[simp] theorem fld262_9 : fldOf Tryz.prog 262 9 = some (9, false, 1) := by kernel_rfl
@[simp] theorem fld262_10 : fldOf Tryz.prog 262 10 = some (10, false, 1) := by kernel_rfl
@[simp] theorem pl262 : placesOf Tryz.prog 262 = some [(0, 1), (1, 1), (2, 1), (3, 1), (4, 1), (5, 1), (6, 1), (7, 1), (8, 1), (9, 1), (10, 1)] := by kernel_rfl
end Go.Proofs.YtlpmemelhlnfbaaGreatDoor
