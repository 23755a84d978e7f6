/- Facts on the types of the program. -/
import Derived.Test.YtkakmdadnhjphaaGreatDoorQ3
import Derived.Test.YtkakmdadnhjphaaGreatDoorProg
import Derived.KernelRfl
set_option linter.all false
set_option linter.all false
namespace Go.Proofs.YtkakmdadnhjphaaGreatDoor
open Go.RowKit
@[simp] theorem ty0 : tyOf Tryz.prog 0 = some (false, 1) := by kernel_rfl
@[simp] theorem zav0 : zAV Tryz.prog 0 [Value.tuple #[]] = [.lit (Value.tuple #[])] := by kernel_rfl
@[simp] theorem z0 : zeroOf Tryz.prog 0 = some [Value.tuple #[]] := by kernel_rfl
@[simp] theorem pl0 : placesOf Tryz.prog 0 = none := by kernel_rfl
@[simp] theorem ty1 : tyOf Tryz.prog 1 = some (false, 1) := by kernel_rfl
@[simp] theorem pl1 : placesOf Tryz.prog 1 = none := by kernel_rfl
@[simp] theorem ty2 : tyOf Tryz.prog 2 = some (false, 1) := by kernel_rfl
@[simp] theorem zav2 : zAV Tryz.prog 2 [Value.int IntKind.i64 0] = [.lit (Value.int IntKind.i64 0)] := by kernel_rfl
@[simp] theorem z2 : zeroOf Tryz.prog 2 = some [Value.int IntKind.i64 0] := by kernel_rfl
@[simp] theorem pl2 : placesOf Tryz.prog 2 = none := by kernel_rfl
@[simp] theorem in2 : intT Tryz.prog 2 = some .i64 := by kernel_rfl
@[simp] theorem un2 : Tryz.prog.underlying 2 = some (.int .i64) := by kernel_rfl
@[simp] theorem ty3 : tyOf Tryz.prog 3 = some (false, 1) := by kernel_rfl
@[simp] theorem zav3 : zAV Tryz.prog 3 [Value.int IntKind.i64 0] = [.lit (Value.int IntKind.i64 0)] := by kernel_rfl
@[simp] theorem z3 : zeroOf Tryz.prog 3 = some [Value.int IntKind.i64 0] := by kernel_rfl
@[simp] theorem pl3 : placesOf Tryz.prog 3 = none := by kernel_rfl
@[simp] theorem in3 : intT Tryz.prog 3 = some .i64 := by kernel_rfl
@[simp] theorem un3 : Tryz.prog.underlying 3 = some (.int .i64) := by kernel_rfl
@[simp] theorem ty4 : tyOf Tryz.prog 4 = some (false, 1) := by kernel_rfl
@[simp] theorem zav4 : zAV Tryz.prog 4 [Value.bool false] = [.lit (Value.bool false)] := by kernel_rfl
@[simp] theorem z4 : zeroOf Tryz.prog 4 = some [Value.bool false] := by kernel_rfl
@[simp] theorem pl4 : placesOf Tryz.prog 4 = none := by kernel_rfl
@[simp] theorem bo4 : boolT Tryz.prog 4 = true := by kernel_rfl
@[simp] theorem ty5 : tyOf Tryz.prog 5 = some (false, 1) := by kernel_rfl
@[simp] theorem zav5 : zAV Tryz.prog 5 [Value.int IntKind.u8 0] = [.lit (Value.int IntKind.u8 0)] := by kernel_rfl
@[simp] theorem z5 : zeroOf Tryz.prog 5 = some [Value.int IntKind.u8 0] := by kernel_rfl
@[simp] theorem pl5 : placesOf Tryz.prog 5 = none := by kernel_rfl
@[simp] theorem in5 : intT Tryz.prog 5 = some .u8 := by kernel_rfl
@[simp] theorem un5 : Tryz.prog.underlying 5 = some (.int .u8) := by kernel_rfl
@[simp] theorem ty6 : tyOf Tryz.prog 6 = some (false, 1) := by kernel_rfl
@[simp] theorem zav6 : zAV Tryz.prog 6 [Value.int IntKind.u8 0] = [.lit (Value.int IntKind.u8 0)] := by kernel_rfl
@[simp] theorem z6 : zeroOf Tryz.prog 6 = some [Value.int IntKind.u8 0] := by kernel_rfl
@[simp] theorem pl6 : placesOf Tryz.prog 6 = none := by kernel_rfl
@[simp] theorem in6 : intT Tryz.prog 6 = some .u8 := by kernel_rfl
@[simp] theorem un6 : Tryz.prog.underlying 6 = some (.int .u8) := by kernel_rfl
@[simp] theorem ty7 : tyOf Tryz.prog 7 = some (true, 4) := by kernel_rfl
@[simp] theorem zav7 : zAV Tryz.prog 7 [Value.int IntKind.i64 0, Value.int IntKind.i64 0, Value.bool false, Value.int IntKind.u8 0] = [.lit (Value.int IntKind.i64 0), .lit (Value.int IntKind.i64 0), .lit (Value.bool false), .lit (Value.int IntKind.u8 0)] := by kernel_rfl
@[simp] theorem z7 : zeroOf Tryz.prog 7 = some [Value.int IntKind.i64 0, Value.int IntKind.i64 0, Value.bool false, Value.int IntKind.u8 0] := by kernel_rfl
@[simp] theorem fld7_0 : fldOf Tryz.prog 7 0 = some (0, false, 1) := by kernel_rfl
@[simp] theorem fld7_1 : fldOf Tryz.prog 7 1 = some (1, false, 1) := by kernel_rfl
@[simp] theorem fld7_2 : fldOf Tryz.prog 7 2 = some (2, false, 1) := by kernel_rfl
@[simp] theorem fld7_3 : fldOf Tryz.prog 7 3 = some (3, false, 1) := by kernel_rfl
@[simp] theorem pl7 : placesOf Tryz.prog 7 = some [(0, 1), (1, 1), (2, 1), (3, 1)] := by kernel_rfl
@[simp] theorem ty8 : tyOf Tryz.prog 8 = some (true, 4) := by kernel_rfl
@[simp] theorem zav8 : zAV Tryz.prog 8 [Value.int IntKind.i64 0, Value.int IntKind.i64 0, Value.bool false, Value.int IntKind.u8 0] = [.lit (Value.int IntKind.i64 0), .lit (Value.int IntKind.i64 0), .lit (Value.bool false), .lit (Value.int IntKind.u8 0)] := by kernel_rfl
@[simp] theorem z8 : zeroOf Tryz.prog 8 = some [Value.int IntKind.i64 0, Value.int IntKind.i64 0, Value.bool false, Value.int IntKind.u8 0] := by kernel_rfl
@[simp] theorem fld8_0 : fldOf Tryz.prog 8 0 = some (0, false, 1) := by kernel_rfl
@[simp] theorem fld8_1 : fldOf Tryz.prog 8 1 = some (1, false, 1) := by kernel_rfl
@[simp] theorem fld8_2 : fldOf Tryz.prog 8 2 = some (2, false, 1) := by kernel_rfl
@[simp] theorem fld8_3 : fldOf Tryz.prog 8 3 = some (3, false, 1) := by kernel_rfl
@[simp] theorem pl8 : placesOf Tryz.prog 8 = some [(0, 1), (1, 1), (2, 1), (3, 1)] := by kernel_rfl
@[simp] theorem ty9 : tyOf Tryz.prog 9 = some (false, 1) := by kernel_rfl
@[simp] theorem zav9 : zAV Tryz.prog 9 [Value.string { data := #[] }] = [.lit (Value.string { data := #[] })] := by kernel_rfl
@[simp] theorem z9 : zeroOf Tryz.prog 9 = some [Value.string { data := #[] }] := by kernel_rfl
@[simp] theorem pl9 : placesOf Tryz.prog 9 = none := by kernel_rfl
@[simp] theorem st9 : strT Tryz.prog 9 = true := by kernel_rfl
@[simp] theorem ty20 : tyOf Tryz.prog 20 = some (false, 1) := by kernel_rfl
@[simp] theorem pl20 : placesOf Tryz.prog 20 = none := by kernel_rfl
@[simp] theorem ty22 : tyOf Tryz.prog 22 = some (false, 1) := by kernel_rfl
@[simp] theorem zav22 : zAV Tryz.prog 22 [Value.slice none 0 0] = [.nl 1] := by kernel_rfl
@[simp] theorem z22 : zeroOf Tryz.prog 22 = some [Value.slice none 0 0] := by kernel_rfl
@[simp] theorem pl22 : placesOf Tryz.prog 22 = none := by kernel_rfl
@[simp] theorem el22 : elOf Tryz.prog 22 = some (5, false, 1, 1, [Value.int IntKind.u8 0]) := by kernel_rfl
@[simp] theorem ty23 : tyOf Tryz.prog 23 = some (false, 1) := by kernel_rfl
@[simp] theorem zav23 : zAV Tryz.prog 23 [Value.slice none 0 0] = [.nl 6] := by kernel_rfl
@[simp] theorem z23 : zeroOf Tryz.prog 23 = some [Value.slice none 0 0] := by kernel_rfl
@[simp] theorem pl23 : placesOf Tryz.prog 23 = none := by kernel_rfl
@[simp] theorem el23 : elOf Tryz.prog 23 = some (31, true, 6, 96, [Value.int IntKind.i64 0, Value.bool false, Value.bool false, Value.slice none 0 0, Value.slice none 0 0, Value.slice none 0 0]) := by kernel_rfl
@[simp] theorem ty25 : tyOf Tryz.prog 25 = some (false, 1) := by kernel_rfl
@[simp] theorem zav25 : zAV Tryz.prog 25 [Value.slice none 0 0] = [.nl 1] := by kernel_rfl
@[simp] theorem z25 : zeroOf Tryz.prog 25 = some [Value.slice none 0 0] := by kernel_rfl
@[simp] theorem pl25 : placesOf Tryz.prog 25 = none := by kernel_rfl
@[simp] theorem el25 : elOf Tryz.prog 25 = some (225, false, 1, 4, [Value.int IntKind.u32 0]) := by kernel_rfl
@[simp] theorem ty26 : tyOf Tryz.prog 26 = some (false, 1) := by kernel_rfl
@[simp] theorem zav26 : zAV Tryz.prog 26 [Value.slice none 0 0] = [.nl 1] := by kernel_rfl
@[simp] theorem z26 : zeroOf Tryz.prog 26 = some [Value.slice none 0 0] := by kernel_rfl
@[simp] theorem pl26 : placesOf Tryz.prog 26 = none := by kernel_rfl
@[simp] theorem el26 : elOf Tryz.prog 26 = some (225, false, 1, 4, [Value.int IntKind.u32 0]) := by kernel_rfl
@[simp] theorem ty28 : tyOf Tryz.prog 28 = some (true, 3) := by kernel_rfl
@[simp] theorem zav28 : zAV Tryz.prog 28 [Value.bool false, Value.slice none 0 0, Value.slice none 0 0] = [.lit (Value.bool false), .nl 1, .nl 1] := by kernel_rfl
@[simp] theorem z28 : zeroOf Tryz.prog 28 = some [Value.bool false, Value.slice none 0 0, Value.slice none 0 0] := by kernel_rfl
@[simp] theorem fld28_0 : fldOf Tryz.prog 28 0 = some (0, false, 1) := by kernel_rfl
@[simp] theorem fld28_1 : fldOf Tryz.prog 28 1 = some (1, false, 1) := by kernel_rfl
@[simp] theorem fld28_2 : fldOf Tryz.prog 28 2 = some (2, false, 1) := by kernel_rfl
@[simp] theorem pl28 : placesOf Tryz.prog 28 = some [(0, 1), (1, 1), (2, 1)] := by kernel_rfl
@[simp] theorem ty29 : tyOf Tryz.prog 29 = some (false, 1) := by kernel_rfl
@[simp] theorem zav29 : zAV Tryz.prog 29 [Value.slice none 0 0] = [.nl 7] := by kernel_rfl
@[simp] theorem z29 : zeroOf Tryz.prog 29 = some [Value.slice none 0 0] := by kernel_rfl
@[simp] theorem pl29 : placesOf Tryz.prog 29 = none := by kernel_rfl
@[simp] theorem el29 : elOf Tryz.prog 29 = some (351, true, 7, 88, [Value.int IntKind.i64 0, Value.int IntKind.i64 0, Value.int IntKind.i64 0, Value.int IntKind.i64 0, Value.bool false, Value.slice none 0 0, Value.slice none 0 0]) := by kernel_rfl
@[simp] theorem ty31 : tyOf Tryz.prog 31 = some (true, 6) := by kernel_rfl
@[simp] theorem zav31 : zAV Tryz.prog 31 [Value.int IntKind.i64 0, Value.bool false, Value.bool false, Value.slice none 0 0, Value.slice none 0 0, Value.slice none 0 0] = [.lit (Value.int IntKind.i64 0), .lit (Value.bool false), .lit (Value.bool false), .nl 1, .nl 1, .nl 7] := by kernel_rfl
@[simp] theorem z31 : zeroOf Tryz.prog 31 = some [Value.int IntKind.i64 0, Value.bool false, Value.bool false, Value.slice none 0 0, Value.slice none 0 0, Value.slice none 0 0] := by kernel_rfl
@[simp] theorem fld31_0 : fldOf Tryz.prog 31 0 = some (0, false, 1) := by kernel_rfl
@[simp] theorem fld31_1 : fldOf Tryz.prog 31 1 = some (1, false, 1) := by kernel_rfl
@[simp] theorem fld31_2 : fldOf Tryz.prog 31 2 = some (2, true, 3) := by kernel_rfl
@[simp] theorem fld31_3 : fldOf Tryz.prog 31 3 = some (5, false, 1) := by kernel_rfl
@[simp] theorem pl31 : placesOf Tryz.prog 31 = some [(0, 1), (1, 1), (2, 3), (5, 1)] := by kernel_rfl
@[simp] theorem ty34 : tyOf Tryz.prog 34 = some (true, 5) := by kernel_rfl
@[simp] theorem zav34 : zAV Tryz.prog 34 [Value.int IntKind.i64 0, Value.int IntKind.i64 0, Value.bool false, Value.slice none 0 0, Value.slice none 0 0] = [.lit (Value.int IntKind.i64 0), .lit (Value.int IntKind.i64 0), .lit (Value.bool false), .nl 1, .nl 1] := by kernel_rfl
@[simp] theorem z34 : zeroOf Tryz.prog 34 = some [Value.int IntKind.i64 0, Value.int IntKind.i64 0, Value.bool false, Value.slice none 0 0, Value.slice none 0 0] := by kernel_rfl
@[simp] theorem fld34_0 : fldOf Tryz.prog 34 0 = some (0, false, 1) := by kernel_rfl
@[simp] theorem fld34_1 : fldOf Tryz.prog 34 1 = some (1, false, 1) := by kernel_rfl
@[simp] theorem fld34_2 : fldOf Tryz.prog 34 2 = some (2, true, 3) := by kernel_rfl
@[simp] theorem pl34 : placesOf Tryz.prog 34 = some [(0, 1), (1, 1), (2, 3)] := by kernel_rfl
@[simp] theorem ty35 : tyOf Tryz.prog 35 = some (false, 1) := by kernel_rfl
@[simp] theorem zav35 : zAV Tryz.prog 35 [Value.slice none 0 0] = [.nl 4] := by kernel_rfl
@[simp] theorem z35 : zeroOf Tryz.prog 35 = some [Value.slice none 0 0] := by kernel_rfl
@[simp] theorem pl35 : placesOf Tryz.prog 35 = none := by kernel_rfl
@[simp] theorem el35 : elOf Tryz.prog 35 = some (43, true, 4, 80, [Value.slice none 0 0, Value.bool false, Value.slice none 0 0, Value.slice none 0 0]) := by kernel_rfl
@[simp] theorem ty37 : tyOf Tryz.prog 37 = some (true, 3) := by kernel_rfl
@[simp] theorem zav37 : zAV Tryz.prog 37 [Value.int IntKind.i64 0, Value.slice none 0 0, Value.slice none 0 0] = [.lit (Value.int IntKind.i64 0), .nl 4, .nl 4] := by kernel_rfl
@[simp] theorem z37 : zeroOf Tryz.prog 37 = some [Value.int IntKind.i64 0, Value.slice none 0 0, Value.slice none 0 0] := by kernel_rfl
@[simp] theorem fld37_0 : fldOf Tryz.prog 37 0 = some (0, false, 1) := by kernel_rfl
@[simp] theorem fld37_1 : fldOf Tryz.prog 37 1 = some (1, false, 1) := by kernel_rfl
@[simp] theorem fld37_2 : fldOf Tryz.prog 37 2 = some (2, false, 1) := by kernel_rfl
@[simp] theorem pl37 : placesOf Tryz.prog 37 = some [(0, 1), (1, 1), (2, 1)] := by kernel_rfl
@[simp] theorem ty38 : tyOf Tryz.prog 38 = some (false, 1) := by kernel_rfl
@[simp] theorem zav38 : zAV Tryz.prog 38 [Value.slice none 0 0] = [.nl 3] := by kernel_rfl
@[simp] theorem z38 : zeroOf Tryz.prog 38 = some [Value.slice none 0 0] := by kernel_rfl
@[simp] theorem pl38 : placesOf Tryz.prog 38 = none := by kernel_rfl
@[simp] theorem el38 : elOf Tryz.prog 38 = some (28, true, 3, 56, [Value.bool false, Value.slice none 0 0, Value.slice none 0 0]) := by kernel_rfl
@[simp] theorem ty40 : tyOf Tryz.prog 40 = some (true, 3) := by kernel_rfl
@[simp] theorem zav40 : zAV Tryz.prog 40 [Value.slice none 0 0, Value.slice none 0 0, Value.slice none 0 0] = [.nl 3, .nl 3, .nl 4] := by kernel_rfl
@[simp] theorem z40 : zeroOf Tryz.prog 40 = some [Value.slice none 0 0, Value.slice none 0 0, Value.slice none 0 0] := by kernel_rfl
@[simp] theorem fld40_0 : fldOf Tryz.prog 40 0 = some (0, false, 1) := by kernel_rfl
@[simp] theorem fld40_1 : fldOf Tryz.prog 40 1 = some (1, false, 1) := by kernel_rfl
@[simp] theorem fld40_2 : fldOf Tryz.prog 40 2 = some (2, false, 1) := by kernel_rfl
@[simp] theorem pl40 : placesOf Tryz.prog 40 = some [(0, 1), (1, 1), (2, 1)] := by kernel_rfl
@[simp] theorem ty41 : tyOf Tryz.prog 41 = some (false, 1) := by kernel_rfl
@[simp] theorem zav41 : zAV Tryz.prog 41 [Value.slice none 0 0] = [.nl 4] := by kernel_rfl
@[simp] theorem z41 : zeroOf Tryz.prog 41 = some [Value.slice none 0 0] := by kernel_rfl
@[simp] theorem pl41 : placesOf Tryz.prog 41 = none := by kernel_rfl
@[simp] theorem el41 : elOf Tryz.prog 41 = some (119, true, 4, 64, [Value.int IntKind.i64 0, Value.bool false, Value.slice none 0 0, Value.slice none 0 0]) := by kernel_rfl
@[simp] theorem ty43 : tyOf Tryz.prog 43 = some (true, 4) := by kernel_rfl
@[simp] theorem zav43 : zAV Tryz.prog 43 [Value.slice none 0 0, Value.bool false, Value.slice none 0 0, Value.slice none 0 0] = [.nl 4, .lit (Value.bool false), .nl 1, .nl 1] := by kernel_rfl
@[simp] theorem z43 : zeroOf Tryz.prog 43 = some [Value.slice none 0 0, Value.bool false, Value.slice none 0 0, Value.slice none 0 0] := by kernel_rfl
@[simp] theorem fld43_0 : fldOf Tryz.prog 43 0 = some (0, false, 1) := by kernel_rfl
@[simp] theorem fld43_1 : fldOf Tryz.prog 43 1 = some (1, true, 3) := by kernel_rfl
@[simp] theorem pl43 : placesOf Tryz.prog 43 = some [(0, 1), (1, 3)] := by kernel_rfl
@[simp] theorem ty45 : tyOf Tryz.prog 45 = some (true, 10) := by kernel_rfl
@[simp] theorem zav45 : zAV Tryz.prog 45 [Value.int IntKind.i64 0, Value.slice none 0 0, Value.slice none 0 0, Value.slice none 0 0, Value.slice none 0 0, Value.slice none 0 0, Value.slice none 0 0, Value.bool false, Value.slice none 0 0, Value.slice none 0 0] = [.lit (Value.int IntKind.i64 0), .nl 4, .nl 4, .nl 3, .nl 3, .nl 4, .nl 4, .lit (Value.bool false), .nl 1, .nl 1] := by kernel_rfl
@[simp] theorem z45 : zeroOf Tryz.prog 45 = some [Value.int IntKind.i64 0, Value.slice none 0 0, Value.slice none 0 0, Value.slice none 0 0, Value.slice none 0 0, Value.slice none 0 0, Value.slice none 0 0, Value.bool false, Value.slice none 0 0, Value.slice none 0 0] := by kernel_rfl
@[simp] theorem fld45_0 : fldOf Tryz.prog 45 0 = some (0, true, 3) := by kernel_rfl
@[simp] theorem fld45_1 : fldOf Tryz.prog 45 1 = some (3, true, 3) := by kernel_rfl
@[simp] theorem fld45_2 : fldOf Tryz.prog 45 2 = some (6, true, 4) := by kernel_rfl
@[simp] theorem pl45 : placesOf Tryz.prog 45 = some [(0, 3), (3, 3), (6, 4)] := by kernel_rfl
@[simp] theorem ty46 : tyOf Tryz.prog 46 = some (false, 1) := by kernel_rfl
@[simp] theorem zav46 : zAV Tryz.prog 46 [Value.slice none 0 0] = [.nl 5] := by kernel_rfl
@[simp] theorem z46 : zeroOf Tryz.prog 46 = some [Value.slice none 0 0] := by kernel_rfl
@[simp] theorem pl46 : placesOf Tryz.prog 46 = none := by kernel_rfl
@[simp] theorem el46 : elOf Tryz.prog 46 = some (34, true, 5, 72, [Value.int IntKind.i64 0, Value.int IntKind.i64 0, Value.bool false, Value.slice none 0 0, Value.slice none 0 0]) := by kernel_rfl
@[simp] theorem ty48 : tyOf Tryz.prog 48 = some (true, 12) := by kernel_rfl
@[simp] theorem zav48 : zAV Tryz.prog 48 [Value.int IntKind.i64 0, Value.slice none 0 0, Value.slice none 0 0, Value.slice none 0 0, Value.slice none 0 0, Value.slice none 0 0, Value.slice none 0 0, Value.bool false, Value.slice none 0 0, Value.slice none 0 0, Value.slice none 0 0, Value.slice none 0 0] = [.lit (Value.int IntKind.i64 0), .nl 4, .nl 4, .nl 3, .nl 3, .nl 4, .nl 4, .lit (Value.bool false), .nl 1, .nl 1, .nl 5, .nl 6] := by kernel_rfl
@[simp] theorem z48 : zeroOf Tryz.prog 48 = some [Value.int IntKind.i64 0, Value.slice none 0 0, Value.slice none 0 0, Value.slice none 0 0, Value.slice none 0 0, Value.slice none 0 0, Value.slice none 0 0, Value.bool false, Value.slice none 0 0, Value.slice none 0 0, Value.slice none 0 0, Value.slice none 0 0] := by kernel_rfl
@[simp] theorem fld48_0 : fldOf Tryz.prog 48 0 = some (0, true, 10) := by kernel_rfl
@[simp] theorem fld48_1 : fldOf Tryz.prog 48 1 = some (10, false, 1) := by kernel_rfl
@[simp] theorem fld48_2 : fldOf Tryz.prog 48 2 = some (11, false, 1) := by kernel_rfl
@[simp] theorem pl48 : placesOf Tryz.prog 48 = some [(0, 10), (10, 1), (11, 1)] := by kernel_rfl
@[simp] theorem ty51 : tyOf Tryz.prog 51 = some (false, 1) := by kernel_rfl
@[simp] theorem zav51 : zAV Tryz.prog 51 [Value.slice none 0 0] = [.nl 1] := by kernel_rfl
@[simp] theorem z51 : zeroOf Tryz.prog 51 = some [Value.slice none 0 0] := by kernel_rfl
@[simp] theorem pl51 : placesOf Tryz.prog 51 = none := by kernel_rfl
@[simp] theorem el51 : elOf Tryz.prog 51 = some (3, false, 1, 8, [Value.int IntKind.i64 0]) := by kernel_rfl
@[simp] theorem ty58 : tyOf Tryz.prog 58 = some (false, 1) := by kernel_rfl
@[simp] theorem pl58 : placesOf Tryz.prog 58 = none := by kernel_rfl
@[simp] theorem ty61 : tyOf Tryz.prog 61 = some (false, 1) := by kernel_rfl
@[simp] theorem zav61 : zAV Tryz.prog 61 [Value.int IntKind.i64 0] = [.lit (Value.int IntKind.i64 0)] := by kernel_rfl
@[simp] theorem z61 : zeroOf Tryz.prog 61 = some [Value.int IntKind.i64 0] := by kernel_rfl
@[simp] theorem pl61 : placesOf Tryz.prog 61 = none := by kernel_rfl
@[simp] theorem in61 : intT Tryz.prog 61 = some .i64 := by kernel_rfl
@[simp] theorem un61 : Tryz.prog.underlying 61 = some (.int .i64) := by kernel_rfl
@[simp] theorem ty62 : tyOf Tryz.prog 62 = some (false, 1) := by kernel_rfl
@[simp] theorem zav62 : zAV Tryz.prog 62 [Value.tuple #[Value.agg #[Value.bool false, Value.slice none 0 0, Value.slice none 0 0], Value.int IntKind.i64 0]] = [.lit (Value.tuple #[Value.agg #[Value.bool false, Value.slice none 0 0, Value.slice none 0 0], Value.int IntKind.i64 0])] := by kernel_rfl
@[simp] theorem z62 : zeroOf Tryz.prog 62 = some [Value.tuple #[Value.agg #[Value.bool false, Value.slice none 0 0, Value.slice none 0 0], Value.int IntKind.i64 0]] := by kernel_rfl
@[simp] theorem pl62 : placesOf Tryz.prog 62 = none := by kernel_rfl
@[simp] theorem ty96 : tyOf Tryz.prog 96 = some (false, 1) := by kernel_rfl
@[simp] theorem pl96 : placesOf Tryz.prog 96 = none := by kernel_rfl
@[simp] theorem ty101 : tyOf Tryz.prog 101 = some (false, 1) := by kernel_rfl
@[simp] theorem zav101 : zAV Tryz.prog 101 [Value.tuple #[Value.slice none 0 0, Value.int IntKind.i64 0]] = [.lit (Value.tuple #[Value.slice none 0 0, Value.int IntKind.i64 0])] := by kernel_rfl
@[simp] theorem z101 : zeroOf Tryz.prog 101 = some [Value.tuple #[Value.slice none 0 0, Value.int IntKind.i64 0]] := by kernel_rfl
@[simp] theorem pl101 : placesOf Tryz.prog 101 = none := by kernel_rfl
@[simp] theorem ty103 : tyOf Tryz.prog 103 = some (false, 1) := by kernel_rfl
@[simp] theorem zav103 : zAV Tryz.prog 103 [Value.tuple #[Value.slice none 0 0, Value.int IntKind.i64 0]] = [.lit (Value.tuple #[Value.slice none 0 0, Value.int IntKind.i64 0])] := by kernel_rfl
@[simp] theorem z103 : zeroOf Tryz.prog 103 = some [Value.tuple #[Value.slice none 0 0, Value.int IntKind.i64 0]] := by kernel_rfl
@[simp] theorem pl103 : placesOf Tryz.prog 103 = none := by kernel_rfl
@[simp] theorem ty105 : tyOf Tryz.prog 105 = some (false, 1) := by kernel_rfl
@[simp] theorem zav105 : zAV Tryz.prog 105 [Value.pointer none] = [.lit (Value.pointer none)] := by kernel_rfl
@[simp] theorem z105 : zeroOf Tryz.prog 105 = some [Value.pointer none] := by kernel_rfl
@[simp] theorem pl105 : placesOf Tryz.prog 105 = none := by kernel_rfl
@[simp] theorem ty119 : tyOf Tryz.prog 119 = some (true, 4) := by kernel_rfl
@[simp] theorem zav119 : zAV Tryz.prog 119 [Value.int IntKind.i64 0, Value.bool false, Value.slice none 0 0, Value.slice none 0 0] = [.lit (Value.int IntKind.i64 0), .lit (Value.bool false), .nl 1, .nl 1] := by kernel_rfl
@[simp] theorem z119 : zeroOf Tryz.prog 119 = some [Value.int IntKind.i64 0, Value.bool false, Value.slice none 0 0, Value.slice none 0 0] := by kernel_rfl
@[simp] theorem fld119_0 : fldOf Tryz.prog 119 0 = some (0, false, 1) := by kernel_rfl
@[simp] theorem fld119_1 : fldOf Tryz.prog 119 1 = some (1, true, 3) := by kernel_rfl
@[simp] theorem pl119 : placesOf Tryz.prog 119 = some [(0, 1), (1, 3)] := by kernel_rfl
@[simp] theorem ty137 : tyOf Tryz.prog 137 = some (true, 2) := by kernel_rfl
@[simp] theorem zav137 : zAV Tryz.prog 137 [Value.bool false, Value.slice none 0 0] = [.lit (Value.bool false), .nl 1] := by kernel_rfl
@[simp] theorem z137 : zeroOf Tryz.prog 137 = some [Value.bool false, Value.slice none 0 0] := by kernel_rfl
@[simp] theorem fld137_0 : fldOf Tryz.prog 137 0 = some (0, false, 1) := by kernel_rfl
@[simp] theorem fld137_1 : fldOf Tryz.prog 137 1 = some (1, false, 1) := by kernel_rfl
@[simp] theorem pl137 : placesOf Tryz.prog 137 = some [(0, 1), (1, 1)] := by kernel_rfl
@[simp] theorem ty153 : tyOf Tryz.prog 153 = some (false, 1) := by kernel_rfl
@[simp] theorem zav153 : zAV Tryz.prog 153 [Value.int IntKind.u64 0] = [.lit (Value.int IntKind.u64 0)] := by kernel_rfl
@[simp] theorem z153 : zeroOf Tryz.prog 153 = some [Value.int IntKind.u64 0] := by kernel_rfl
@[simp] theorem pl153 : placesOf Tryz.prog 153 = none := by kernel_rfl
@[simp] theorem in153 : intT Tryz.prog 153 = some .u64 := by kernel_rfl
@[simp] theorem un153 : Tryz.prog.underlying 153 = some (.int .u64) := by kernel_rfl
@[simp] theorem ty183 : tyOf Tryz.prog 183 = some (true, 5) := by kernel_rfl
@[simp] theorem zav183 : zAV Tryz.prog 183 [Value.int IntKind.i64 0, Value.int IntKind.i64 0, Value.int IntKind.i64 0, Value.int IntKind.i64 0, Value.int IntKind.i64 0] = [.lit (Value.int IntKind.i64 0), .lit (Value.int IntKind.i64 0), .lit (Value.int IntKind.i64 0), .lit (Value.int IntKind.i64 0), .lit (Value.int IntKind.i64 0)] := by kernel_rfl
@[simp] theorem z183 : zeroOf Tryz.prog 183 = some [Value.int IntKind.i64 0, Value.int IntKind.i64 0, Value.int IntKind.i64 0, Value.int IntKind.i64 0, Value.int IntKind.i64 0] := by kernel_rfl
@[simp] theorem pl183 : placesOf Tryz.prog 183 = none := by kernel_rfl
@[simp] theorem ar183 : arOf Tryz.prog 183 = some (5, false, 1) := by kernel_rfl
@[simp] theorem nel183 : elOf Tryz.prog 183 = none := by kernel_rfl
@[simp] theorem ty186 : tyOf Tryz.prog 186 = some (true, 2) := by kernel_rfl
@[simp] theorem zav186 : zAV Tryz.prog 186 [Value.int IntKind.i64 0, Value.bool false] = [.lit (Value.int IntKind.i64 0), .lit (Value.bool false)] := by kernel_rfl
@[simp] theorem z186 : zeroOf Tryz.prog 186 = some [Value.int IntKind.i64 0, Value.bool false] := by kernel_rfl
@[simp] theorem fld186_0 : fldOf Tryz.prog 186 0 = some (0, false, 1) := by kernel_rfl
@[simp] theorem fld186_1 : fldOf Tryz.prog 186 1 = some (1, false, 1) := by kernel_rfl
@[simp] theorem pl186 : placesOf Tryz.prog 186 = some [(0, 1), (1, 1)] := by kernel_rfl
@[simp] theorem ty187 : tyOf Tryz.prog 187 = some (false, 1) := by kernel_rfl
@[simp] theorem zav187 : zAV Tryz.prog 187 [Value.tuple #[Value.agg #[Value.int IntKind.i64 0, Value.bool false], Value.bool false]] = [.lit (Value.tuple #[Value.agg #[Value.int IntKind.i64 0, Value.bool false], Value.bool false])] := by kernel_rfl
@[simp] theorem z187 : zeroOf Tryz.prog 187 = some [Value.tuple #[Value.agg #[Value.int IntKind.i64 0, Value.bool false], Value.bool false]] := by kernel_rfl
@[simp] theorem pl187 : placesOf Tryz.prog 187 = none := by kernel_rfl
@[simp] theorem ty192 : tyOf Tryz.prog 192 = some (true, 2) := by kernel_rfl
@[simp] theorem zav192 : zAV Tryz.prog 192 [Value.slice none 0 0, Value.int IntKind.i64 0] = [.nl 1, .lit (Value.int IntKind.i64 0)] := by kernel_rfl
@[simp] theorem z192 : zeroOf Tryz.prog 192 = some [Value.slice none 0 0, Value.int IntKind.i64 0] := by kernel_rfl
@[simp] theorem fld192_0 : fldOf Tryz.prog 192 0 = some (0, false, 1) := by kernel_rfl
@[simp] theorem fld192_1 : fldOf Tryz.prog 192 1 = some (1, false, 1) := by kernel_rfl
@[simp] theorem pl192 : placesOf Tryz.prog 192 = some [(0, 1), (1, 1)] := by kernel_rfl
@[simp] theorem ty195 : tyOf Tryz.prog 195 = some (true, 4) := by kernel_rfl
@[simp] theorem zav195 : zAV Tryz.prog 195 [Value.int IntKind.i64 0, Value.int IntKind.i64 0, Value.int IntKind.i64 0, Value.int IntKind.i64 0] = [.lit (Value.int IntKind.i64 0), .lit (Value.int IntKind.i64 0), .lit (Value.int IntKind.i64 0), .lit (Value.int IntKind.i64 0)] := by kernel_rfl
@[simp] theorem z195 : zeroOf Tryz.prog 195 = some [Value.int IntKind.i64 0, Value.int IntKind.i64 0, Value.int IntKind.i64 0, Value.int IntKind.i64 0] := by kernel_rfl
@[simp] theorem pl195 : placesOf Tryz.prog 195 = none := by kernel_rfl
@[simp] theorem ar195 : arOf Tryz.prog 195 = some (4, false, 1) := by kernel_rfl
@[simp] theorem nel195 : elOf Tryz.prog 195 = none := by kernel_rfl
@[simp] theorem ty199 : tyOf Tryz.prog 199 = some (false, 1) := by kernel_rfl
@[simp] theorem zav199 : zAV Tryz.prog 199 [Value.tuple #[Value.int IntKind.i64 0, Value.int IntKind.i64 0]] = [.lit (Value.tuple #[Value.int IntKind.i64 0, Value.int IntKind.i64 0])] := by kernel_rfl
@[simp] theorem z199 : zeroOf Tryz.prog 199 = some [Value.tuple #[Value.int IntKind.i64 0, Value.int IntKind.i64 0]] := by kernel_rfl
@[simp] theorem pl199 : placesOf Tryz.prog 199 = none := by kernel_rfl
@[simp] theorem ty201 : tyOf Tryz.prog 201 = some (false, 1) := by kernel_rfl
@[simp] theorem zav201 : zAV Tryz.prog 201 [Value.tuple #[Value.bool false, Value.bool false]] = [.lit (Value.tuple #[Value.bool false, Value.bool false])] := by kernel_rfl
@[simp] theorem z201 : zeroOf Tryz.prog 201 = some [Value.tuple #[Value.bool false, Value.bool false]] := by kernel_rfl
@[simp] theorem pl201 : placesOf Tryz.prog 201 = none := by kernel_rfl
@[simp] theorem ty223 : tyOf Tryz.prog 223 = some (false, 1) := by kernel_rfl
@[simp] theorem zav223 : zAV Tryz.prog 223 [Value.tuple #[Value.slice none 0 0, Value.slice none 0 0, Value.int IntKind.i64 0]] = [.lit (Value.tuple #[Value.slice none 0 0, Value.slice none 0 0, Value.int IntKind.i64 0])] := by kernel_rfl
@[simp] theorem z223 : zeroOf Tryz.prog 223 = some [Value.tuple #[Value.slice none 0 0, Value.slice none 0 0, Value.int IntKind.i64 0]] := by kernel_rfl
@[simp] theorem pl223 : placesOf Tryz.prog 223 = none := by kernel_rfl
@[simp] theorem ty225 : tyOf Tryz.prog 225 = some (false, 1) := by kernel_rfl
@[simp] theorem zav225 : zAV Tryz.prog 225 [Value.int IntKind.u32 0] = [.lit (Value.int IntKind.u32 0)] := by kernel_rfl
@[simp] theorem z225 : zeroOf Tryz.prog 225 = some [Value.int IntKind.u32 0] := by kernel_rfl
@[simp] theorem pl225 : placesOf Tryz.prog 225 = none := by kernel_rfl
@[simp] theorem in225 : intT Tryz.prog 225 = some .u32 := by kernel_rfl
@[simp] theorem un225 : Tryz.prog.underlying 225 = some (.int .u32) := by kernel_rfl
@[simp] theorem ty227 : tyOf Tryz.prog 227 = some (false, 1) := by kernel_rfl
@[simp] theorem zav227 : zAV Tryz.prog 227 [Value.int IntKind.u64 0] = [.lit (Value.int IntKind.u64 0)] := by kernel_rfl
@[simp] theorem z227 : zeroOf Tryz.prog 227 = some [Value.int IntKind.u64 0] := by kernel_rfl
@[simp] theorem pl227 : placesOf Tryz.prog 227 = none := by kernel_rfl
@[simp] theorem in227 : intT Tryz.prog 227 = some .u64 := by kernel_rfl
@[simp] theorem un227 : Tryz.prog.underlying 227 = some (.int .u64) := by kernel_rfl
@[simp] theorem ty233 : tyOf Tryz.prog 233 = some (false, 1) := by kernel_rfl
@[simp] theorem zav233 : zAV Tryz.prog 233 [Value.tuple #[Value.agg #[Value.bool false, Value.slice none 0 0], Value.agg #[Value.bool false, Value.slice none 0 0]]] = [.lit (Value.tuple #[Value.agg #[Value.bool false, Value.slice none 0 0], Value.agg #[Value.bool false, Value.slice none 0 0]])] := by kernel_rfl
@[simp] theorem z233 : zeroOf Tryz.prog 233 = some [Value.tuple #[Value.agg #[Value.bool false, Value.slice none 0 0], Value.agg #[Value.bool false, Value.slice none 0 0]]] := by kernel_rfl
@[simp] theorem pl233 : placesOf Tryz.prog 233 = none := by kernel_rfl
@[simp] theorem ty253 : tyOf Tryz.prog 253 = some (false, 1) := by kernel_rfl
@[simp] theorem zav253 : zAV Tryz.prog 253 [Value.map none] = [.lit (Value.map none)] := by kernel_rfl
@[simp] theorem z253 : zeroOf Tryz.prog 253 = some [Value.map none] := by kernel_rfl
@[simp] theorem pl253 : placesOf Tryz.prog 253 = none := by kernel_rfl
@[simp] theorem ty258 : tyOf Tryz.prog 258 = some (false, 1) := by kernel_rfl
@[simp] theorem zav258 : zAV Tryz.prog 258 [Value.tuple #[Value.int IntKind.u64 0, Value.bool false]] = [.lit (Value.tuple #[Value.int IntKind.u64 0, Value.bool false])] := by kernel_rfl
@[simp] theorem z258 : zeroOf Tryz.prog 258 = some [Value.tuple #[Value.int IntKind.u64 0, Value.bool false]] := by kernel_rfl
@[simp] theorem pl258 : placesOf Tryz.prog 258 = none := by kernel_rfl
@[simp] theorem ty265 : tyOf Tryz.prog 265 = some (false, 1) := by kernel_rfl
@[simp] theorem zav265 : zAV Tryz.prog 265 [Value.tuple #[Value.slice none 0 0, Value.int IntKind.i64 0]] = [.lit (Value.tuple #[Value.slice none 0 0, Value.int IntKind.i64 0])] := by kernel_rfl
@[simp] theorem z265 : zeroOf Tryz.prog 265 = some [Value.tuple #[Value.slice none 0 0, Value.int IntKind.i64 0]] := by kernel_rfl
@[simp] theorem pl265 : placesOf Tryz.prog 265 = none := by kernel_rfl
@[simp] theorem ty269 : tyOf Tryz.prog 269 = some (false, 1) := by kernel_rfl
@[simp] theorem pl269 : placesOf Tryz.prog 269 = none := by kernel_rfl
@[simp] theorem ty271 : tyOf Tryz.prog 271 = some (false, 1) := by kernel_rfl
@[simp] theorem pl271 : placesOf Tryz.prog 271 = none := by kernel_rfl
@[simp] theorem ty292 : tyOf Tryz.prog 292 = some (false, 1) := by kernel_rfl
@[simp] theorem zav292 : zAV Tryz.prog 292 [Value.tuple #[Value.slice none 0 0, Value.slice none 0 0]] = [.lit (Value.tuple #[Value.slice none 0 0, Value.slice none 0 0])] := by kernel_rfl
@[simp] theorem z292 : zeroOf Tryz.prog 292 = some [Value.tuple #[Value.slice none 0 0, Value.slice none 0 0]] := by kernel_rfl
@[simp] theorem pl292 : placesOf Tryz.prog 292 = none := by kernel_rfl
@[simp] theorem ty297 : tyOf Tryz.prog 297 = some (true, 24) := by kernel_rfl
@[simp] theorem zav297 : zAV Tryz.prog 297 [Value.int IntKind.u8 0, Value.int IntKind.u8 0, Value.int IntKind.u8 0, Value.int IntKind.u8 0, Value.int IntKind.u8 0, Value.int IntKind.u8 0, Value.int IntKind.u8 0, Value.int IntKind.u8 0, Value.int IntKind.u8 0, Value.int IntKind.u8 0, Value.int IntKind.u8 0, Value.int IntKind.u8 0, Value.int IntKind.u8 0, Value.int IntKind.u8 0, Value.int IntKind.u8 0, Value.int IntKind.u8 0, Value.int IntKind.u8 0, Value.int IntKind.u8 0, Value.int IntKind.u8 0, Value.int IntKind.u8 0, Value.int IntKind.u8 0, Value.int IntKind.u8 0, Value.int IntKind.u8 0, Value.int IntKind.u8 0] = [.lit (Value.int IntKind.u8 0), .lit (Value.int IntKind.u8 0), .lit (Value.int IntKind.u8 0), .lit (Value.int IntKind.u8 0), .lit (Value.int IntKind.u8 0), .lit (Value.int IntKind.u8 0), .lit (Value.int IntKind.u8 0), .lit (Value.int IntKind.u8 0), .lit (Value.int IntKind.u8 0), .lit (Value.int IntKind.u8 0), .lit (Value.int IntKind.u8 0), .lit (Value.int IntKind.u8 0), .lit (Value.int IntKind.u8 0), .lit (Value.int IntKind.u8 0), .lit (Value.int IntKind.u8 0), .lit (Value.int IntKind.u8 0), .lit (Value.int IntKind.u8 0), .lit (Value.int IntKind.u8 0), .lit (Value.int IntKind.u8 0), .lit (Value.int IntKind.u8 0), .lit (Value.int IntKind.u8 0), .lit (Value.int IntKind.u8 0), .lit (Value.int IntKind.u8 0), .lit (Value.int IntKind.u8 0)] := by kernel_rfl
@[simp] theorem z297 : zeroOf Tryz.prog 297 = some [Value.int IntKind.u8 0, Value.int IntKind.u8 0, Value.int IntKind.u8 0, Value.int IntKind.u8 0, Value.int IntKind.u8 0, Value.int IntKind.u8 0, Value.int IntKind.u8 0, Value.int IntKind.u8 0, Value.int IntKind.u8 0, Value.int IntKind.u8 0, Value.int IntKind.u8 0, Value.int IntKind.u8 0, Value.int IntKind.u8 0, Value.int IntKind.u8 0, Value.int IntKind.u8 0, Value.int IntKind.u8 0, Value.int IntKind.u8 0, Value.int IntKind.u8 0, Value.int IntKind.u8 0, Value.int IntKind.u8 0, Value.int IntKind.u8 0, Value.int IntKind.u8 0, Value.int IntKind.u8 0, Value.int IntKind.u8 0] := by kernel_rfl
@[simp] theorem pl297 : placesOf Tryz.prog 297 = none := by kernel_rfl
@[simp] theorem ar297 : arOf Tryz.prog 297 = some (24, false, 1) := by kernel_rfl
@[simp] theorem nel297 : elOf Tryz.prog 297 = none := by kernel_rfl
@[simp] theorem ty299 : tyOf Tryz.prog 299 = some (false, 1) := by kernel_rfl
@[simp] theorem zav299 : zAV Tryz.prog 299 [Value.tuple #[Value.slice none 0 0, Value.string { data := #[] }]] = [.lit (Value.tuple #[Value.slice none 0 0, Value.string { data := #[] }])] := by kernel_rfl
@[simp] theorem z299 : zeroOf Tryz.prog 299 = some [Value.tuple #[Value.slice none 0 0, Value.string { data := #[] }]] := by kernel_rfl
@[simp] theorem pl299 : placesOf Tryz.prog 299 = none := by kernel_rfl
@[simp] theorem ty317 : tyOf Tryz.prog 317 = some (true, 20) := by kernel_rfl
@[simp] theorem zav317 : zAV Tryz.prog 317 [Value.int IntKind.u64 0, Value.int IntKind.u64 0, Value.int IntKind.u64 0, Value.int IntKind.u64 0, Value.int IntKind.u64 0, Value.int IntKind.u64 0, Value.int IntKind.u64 0, Value.int IntKind.u64 0, Value.int IntKind.u64 0, Value.int IntKind.u64 0, Value.int IntKind.u64 0, Value.int IntKind.u64 0, Value.int IntKind.u64 0, Value.int IntKind.u64 0, Value.int IntKind.u64 0, Value.int IntKind.u64 0, Value.int IntKind.u64 0, Value.int IntKind.u64 0, Value.int IntKind.u64 0, Value.int IntKind.u64 0] = [.lit (Value.int IntKind.u64 0), .lit (Value.int IntKind.u64 0), .lit (Value.int IntKind.u64 0), .lit (Value.int IntKind.u64 0), .lit (Value.int IntKind.u64 0), .lit (Value.int IntKind.u64 0), .lit (Value.int IntKind.u64 0), .lit (Value.int IntKind.u64 0), .lit (Value.int IntKind.u64 0), .lit (Value.int IntKind.u64 0), .lit (Value.int IntKind.u64 0), .lit (Value.int IntKind.u64 0), .lit (Value.int IntKind.u64 0), .lit (Value.int IntKind.u64 0), .lit (Value.int IntKind.u64 0), .lit (Value.int IntKind.u64 0), .lit (Value.int IntKind.u64 0), .lit (Value.int IntKind.u64 0), .lit (Value.int IntKind.u64 0), .lit (Value.int IntKind.u64 0)] := by kernel_rfl
@[simp] theorem z317 : zeroOf Tryz.prog 317 = some [Value.int IntKind.u64 0, Value.int IntKind.u64 0, Value.int IntKind.u64 0, Value.int IntKind.u64 0, Value.int IntKind.u64 0, Value.int IntKind.u64 0, Value.int IntKind.u64 0, Value.int IntKind.u64 0, Value.int IntKind.u64 0, Value.int IntKind.u64 0, Value.int IntKind.u64 0, Value.int IntKind.u64 0, Value.int IntKind.u64 0, Value.int IntKind.u64 0, Value.int IntKind.u64 0, Value.int IntKind.u64 0, Value.int IntKind.u64 0, Value.int IntKind.u64 0, Value.int IntKind.u64 0, Value.int IntKind.u64 0] := by kernel_rfl
@[simp] theorem pl317 : placesOf Tryz.prog 317 = none := by kernel_rfl
@[simp] theorem ar317 : arOf Tryz.prog 317 = some (20, false, 1) := by kernel_rfl
@[simp] theorem nel317 : elOf Tryz.prog 317 = none := by kernel_rfl
@[simp] theorem ty318 : tyOf Tryz.prog 318 = some (true, 65) := by kernel_rfl
@[simp] theorem pl318 : placesOf Tryz.prog 318 = none := by kernel_rfl
@[simp] theorem ar318 : arOf Tryz.prog 318 = some (65, false, 1) := by kernel_rfl
@[simp] theorem nel318 : elOf Tryz.prog 318 = none := by kernel_rfl
@[simp] theorem ty334 : tyOf Tryz.prog 334 = some (true, 32) := by kernel_rfl
@[simp] theorem zav334 : zAV Tryz.prog 334 [Value.int IntKind.u8 0, Value.int IntKind.u8 0, Value.int IntKind.u8 0, Value.int IntKind.u8 0, Value.int IntKind.u8 0, Value.int IntKind.u8 0, Value.int IntKind.u8 0, Value.int IntKind.u8 0, Value.int IntKind.u8 0, Value.int IntKind.u8 0, Value.int IntKind.u8 0, Value.int IntKind.u8 0, Value.int IntKind.u8 0, Value.int IntKind.u8 0, Value.int IntKind.u8 0, Value.int IntKind.u8 0, Value.int IntKind.u8 0, Value.int IntKind.u8 0, Value.int IntKind.u8 0, Value.int IntKind.u8 0, Value.int IntKind.u8 0, Value.int IntKind.u8 0, Value.int IntKind.u8 0, Value.int IntKind.u8 0, Value.int IntKind.u8 0, Value.int IntKind.u8 0, Value.int IntKind.u8 0, Value.int IntKind.u8 0, Value.int IntKind.u8 0, Value.int IntKind.u8 0, Value.int IntKind.u8 0, Value.int IntKind.u8 0] = [.lit (Value.int IntKind.u8 0), .lit (Value.int IntKind.u8 0), .lit (Value.int IntKind.u8 0), .lit (Value.int IntKind.u8 0), .lit (Value.int IntKind.u8 0), .lit (Value.int IntKind.u8 0), .lit (Value.int IntKind.u8 0), .lit (Value.int IntKind.u8 0), .lit (Value.int IntKind.u8 0), .lit (Value.int IntKind.u8 0), .lit (Value.int IntKind.u8 0), .lit (Value.int IntKind.u8 0), .lit (Value.int IntKind.u8 0), .lit (Value.int IntKind.u8 0), .lit (Value.int IntKind.u8 0), .lit (Value.int IntKind.u8 0), .lit (Value.int IntKind.u8 0), .lit (Value.int IntKind.u8 0), .lit (Value.int IntKind.u8 0), .lit (Value.int IntKind.u8 0), .lit (Value.int IntKind.u8 0), .lit (Value.int IntKind.u8 0), .lit (Value.int IntKind.u8 0), .lit (Value.int IntKind.u8 0), .lit (Value.int IntKind.u8 0), .lit (Value.int IntKind.u8 0), .lit (Value.int IntKind.u8 0), .lit (Value.int IntKind.u8 0), .lit (Value.int IntKind.u8 0), .lit (Value.int IntKind.u8 0), .lit (Value.int IntKind.u8 0), .lit (Value.int IntKind.u8 0)] := by kernel_rfl
@[simp] theorem z334 : zeroOf Tryz.prog 334 = some [Value.int IntKind.u8 0, Value.int IntKind.u8 0, Value.int IntKind.u8 0, Value.int IntKind.u8 0, Value.int IntKind.u8 0, Value.int IntKind.u8 0, Value.int IntKind.u8 0, Value.int IntKind.u8 0, Value.int IntKind.u8 0, Value.int IntKind.u8 0, Value.int IntKind.u8 0, Value.int IntKind.u8 0, Value.int IntKind.u8 0, Value.int IntKind.u8 0, Value.int IntKind.u8 0, Value.int IntKind.u8 0, Value.int IntKind.u8 0, Value.int IntKind.u8 0, Value.int IntKind.u8 0, Value.int IntKind.u8 0, Value.int IntKind.u8 0, Value.int IntKind.u8 0, Value.int IntKind.u8 0, Value.int IntKind.u8 0, Value.int IntKind.u8 0, Value.int IntKind.u8 0, Value.int IntKind.u8 0, Value.int IntKind.u8 0, Value.int IntKind.u8 0, Value.int IntKind.u8 0, Value.int IntKind.u8 0, Value.int IntKind.u8 0] := by kernel_rfl
@[simp] theorem pl334 : placesOf Tryz.prog 334 = none := by kernel_rfl
@[simp] theorem ar334 : arOf Tryz.prog 334 = some (32, false, 1) := by kernel_rfl
@[simp] theorem nel334 : elOf Tryz.prog 334 = none := by kernel_rfl
@[simp] theorem ty335 : tyOf Tryz.prog 335 = some (true, 64) := by kernel_rfl
@[simp] theorem pl335 : placesOf Tryz.prog 335 = none := by kernel_rfl
@[simp] theorem ar335 : arOf Tryz.prog 335 = some (64, false, 1) := by kernel_rfl
@[simp] theorem nel335 : elOf Tryz.prog 335 = none := by kernel_rfl
@[simp] theorem ty349 : tyOf Tryz.prog 349 = some (true, 4) := by kernel_rfl
@[simp] theorem zav349 : zAV Tryz.prog 349 [Value.int IntKind.i64 0, Value.int IntKind.i64 0, Value.int IntKind.i64 0, Value.int IntKind.i64 0] = [.lit (Value.int IntKind.i64 0), .lit (Value.int IntKind.i64 0), .lit (Value.int IntKind.i64 0), .lit (Value.int IntKind.i64 0)] := by kernel_rfl
@[simp] theorem z349 : zeroOf Tryz.prog 349 = some [Value.int IntKind.i64 0, Value.int IntKind.i64 0, Value.int IntKind.i64 0, Value.int IntKind.i64 0] := by kernel_rfl
@[simp] theorem fld349_0 : fldOf Tryz.prog 349 0 = some (0, false, 1) := by kernel_rfl
@[simp] theorem fld349_1 : fldOf Tryz.prog 349 1 = some (1, false, 1) := by kernel_rfl
@[simp] theorem fld349_2 : fldOf Tryz.prog 349 2 = some (2, false, 1) := by kernel_rfl
@[simp] theorem fld349_3 : fldOf Tryz.prog 349 3 = some (3, false, 1) := by kernel_rfl
@[simp] theorem pl349 : placesOf Tryz.prog 349 = some [(0, 1), (1, 1), (2, 1), (3, 1)] := by kernel_rfl
@[simp] theorem ty351 : tyOf Tryz.prog 351 = some (true, 7) := by kernel_rfl
@[simp] theorem zav351 : zAV Tryz.prog 351 [Value.int IntKind.i64 0, Value.int IntKind.i64 0, Value.int IntKind.i64 0, Value.int IntKind.i64 0, Value.bool false, Value.slice none 0 0, Value.slice none 0 0] = [.lit (Value.int IntKind.i64 0), .lit (Value.int IntKind.i64 0), .lit (Value.int IntKind.i64 0), .lit (Value.int IntKind.i64 0), .lit (Value.bool false), .nl 1, .nl 1] := by kernel_rfl
@[simp] theorem z351 : zeroOf Tryz.prog 351 = some [Value.int IntKind.i64 0, Value.int IntKind.i64 0, Value.int IntKind.i64 0, Value.int IntKind.i64 0, Value.bool false, Value.slice none 0 0, Value.slice none 0 0] := by kernel_rfl
@[simp] theorem fld351_0 : fldOf Tryz.prog 351 0 = some (0, true, 4) := by kernel_rfl
@[simp] theorem fld351_1 : fldOf Tryz.prog 351 1 = some (4, true, 3) := by kernel_rfl
@[simp] theorem pl351 : placesOf Tryz.prog 351 = some [(0, 4), (4, 3)] := by kernel_rfl
end Go.Proofs.YtkakmdadnhjphaaGreatDoor
