import Derived.Test.YtlpmemelhlnfbaaGreatDoorQ3
import Derived.Test.YtlpmemelhlnfbaaGreatDoorProg
import Derived.KernelRfl
set_option linter.all false
namespace Go.Proofs.YtlpmemelhlnfbaaGreatDoor
open Go.RowKit
@[simp] theorem ty0 : tyOf Tryz.prog 0 = some (false, 1) := by kernel_rfl
@[simp] theorem zav0 : zAV Tryz.prog 0 [Value.tuple #[]] = [.lit (Value.tuple #[])] := by kernel_rfl
@[simp] theorem z0 : zeroOf Tryz.prog 0 = some [Value.tuple #[]] := by kernel_rfl
@[simp] theorem pl0 : placesOf Tryz.prog 0 = none := by kernel_rfl
@[simp] theorem ty1 : tyOf Tryz.prog 1 = some (false, 1) := by kernel_rfl
@[simp] theorem pl1 : placesOf Tryz.prog 1 = none := by kernel_rfl
@[simp] theorem ty2 : tyOf Tryz.prog 2 = some (false, 1) := by kernel_rfl
@[simp] theorem zav2 : zAV Tryz.prog 2 [Value.int IntKind.i64 0] = [.lit (Value.int IntKind.i64 0)] := by kernel_rfl
@[simp] theorem z2 : zeroOf Tryz.prog 2 = some [Value.int IntKind.i64 0] := by kernel_rfl
@[simp] theorem pl2 : placesOf Tryz.prog 2 = none := by kernel_rfl
@[simp] theorem in2 : intT Tryz.prog 2 = some .i64 := by kernel_rfl
@[simp] theorem un2 : Tryz.prog.underlying 2 = some (.int .i64) := by kernel_rfl
@[simp] theorem ty3 : tyOf Tryz.prog 3 = some (false, 1) := by kernel_rfl
@[simp] theorem zav3 : zAV Tryz.prog 3 [Value.int IntKind.i64 0] = [.lit (Value.int IntKind.i64 0)] := by kernel_rfl
@[simp] theorem z3 : zeroOf Tryz.prog 3 = some [Value.int IntKind.i64 0] := by kernel_rfl
@[simp] theorem pl3 : placesOf Tryz.prog 3 = none := by kernel_rfl
@[simp] theorem in3 : intT Tryz.prog 3 = some .i64 := by kernel_rfl
@[simp] theorem un3 : Tryz.prog.underlying 3 = some (.int .i64) := by kernel_rfl
@[simp] theorem ty4 : tyOf Tryz.prog 4 = some (false, 1) := by kernel_rfl
@[simp] theorem zav4 : zAV Tryz.prog 4 [Value.bool false] = [.lit (Value.bool false)] := by kernel_rfl
@[simp] theorem z4 : zeroOf Tryz.prog 4 = some [Value.bool false] := by kernel_rfl
@[simp] theorem pl4 : placesOf Tryz.prog 4 = none := by kernel_rfl
@[simp] theorem bo4 : boolT Tryz.prog 4 = true := by kernel_rfl
@[simp] theorem ty5 : tyOf Tryz.prog 5 = some (false, 1) := by kernel_rfl
@[simp] theorem zav5 : zAV Tryz.prog 5 [Value.int IntKind.u8 0] = [.lit (Value.int IntKind.u8 0)] := by kernel_rfl
@[simp] theorem z5 : zeroOf Tryz.prog 5 = some [Value.int IntKind.u8 0] := by kernel_rfl
@[simp] theorem pl5 : placesOf Tryz.prog 5 = none := by kernel_rfl
@[simp] theorem in5 : intT Tryz.prog 5 = some .u8 := by kernel_rfl
@[simp] theorem un5 : Tryz.prog.underlying 5 = some (.int .u8) := by kernel_rfl
@[simp] theorem ty9 : tyOf Tryz.prog 9 = some (false, 1) := by kernel_rfl
@[simp] theorem zav9 : zAV Tryz.prog 9 [Value.string { data := #[] }] = [.lit (Value.string { data := #[] })] := by kernel_rfl
@[simp] theorem z9 : zeroOf Tryz.prog 9 = some [Value.string { data := #[] }] := by kernel_rfl
@[simp] theorem pl9 : placesOf Tryz.prog 9 = none := by kernel_rfl
@[simp] theorem st9 : strT Tryz.prog 9 = true := by kernel_rfl
@[simp] theorem ty20 : tyOf Tryz.prog 20 = some (false, 1) := by kernel_rfl
@[simp] theorem pl20 : placesOf Tryz.prog 20 = none := by kernel_rfl
@[simp] theorem ty22 : tyOf Tryz.prog 22 = some (false, 1) := by kernel_rfl
@[simp] theorem zav22 : zAV Tryz.prog 22 [Value.slice none 0 0] = [.nl 4] := by kernel_rfl
@[simp] theorem z22 : zeroOf Tryz.prog 22 = some [Value.slice none 0 0] := by kernel_rfl
@[simp] theorem pl22 : placesOf Tryz.prog 22 = none := by kernel_rfl
@[simp] theorem el22 : elOf Tryz.prog 22 = some (29, true, 4, 80, [Value.slice none 0 0, Value.bool false, Value.slice none 0 0, Value.slice none 0 0]) := by kernel_rfl
@[simp] theorem ty23 : tyOf Tryz.prog 23 = some (false, 1) := by kernel_rfl
@[simp] theorem zav23 : zAV Tryz.prog 23 [Value.slice none 0 0] = [.nl 4] := by kernel_rfl
@[simp] theorem z23 : zeroOf Tryz.prog 23 = some [Value.slice none 0 0] := by kernel_rfl
@[simp] theorem pl23 : placesOf Tryz.prog 23 = none := by kernel_rfl
@[simp] theorem el23 : elOf Tryz.prog 23 = some (84, true, 4, 64, [Value.int IntKind.i64 0, Value.bool false, Value.slice none 0 0, Value.slice none 0 0]) := by kernel_rfl
@[simp] theorem ty24 : tyOf Tryz.prog 24 = some (false, 1) := by kernel_rfl
@[simp] theorem zav24 : zAV Tryz.prog 24 [Value.slice none 0 0] = [.nl 1] := by kernel_rfl
@[simp] theorem z24 : zeroOf Tryz.prog 24 = some [Value.slice none 0 0] := by kernel_rfl
@[simp] theorem pl24 : placesOf Tryz.prog 24 = none := by kernel_rfl
@[simp] theorem el24 : elOf Tryz.prog 24 = some (178, false, 1, 4, [Value.int IntKind.u32 0]) := by kernel_rfl
@[simp] theorem ty25 : tyOf Tryz.prog 25 = some (false, 1) := by kernel_rfl
@[simp] theorem zav25 : zAV Tryz.prog 25 [Value.slice none 0 0] = [.nl 1] := by kernel_rfl
@[simp] theorem z25 : zeroOf Tryz.prog 25 = some [Value.slice none 0 0] := by kernel_rfl
@[simp] theorem pl25 : placesOf Tryz.prog 25 = none := by kernel_rfl
@[simp] theorem el25 : elOf Tryz.prog 25 = some (178, false, 1, 4, [Value.int IntKind.u32 0]) := by kernel_rfl
@[simp] theorem ty27 : tyOf Tryz.prog 27 = some (true, 3) := by kernel_rfl
@[simp] theorem zav27 : zAV Tryz.prog 27 [Value.bool false, Value.slice none 0 0, Value.slice none 0 0] = [.lit (Value.bool false), .nl 1, .nl 1] := by kernel_rfl
@[simp] theorem z27 : zeroOf Tryz.prog 27 = some [Value.bool false, Value.slice none 0 0, Value.slice none 0 0] := by kernel_rfl
@[simp] theorem fld27_0 : fldOf Tryz.prog 27 0 = some (0, false, 1) := by kernel_rfl
@[simp] theorem fld27_1 : fldOf Tryz.prog 27 1 = some (1, false, 1) := by kernel_rfl
@[simp] theorem fld27_2 : fldOf Tryz.prog 27 2 = some (2, false, 1) := by kernel_rfl
@[simp] theorem pl27 : placesOf Tryz.prog 27 = some [(0, 1), (1, 1), (2, 1)] := by kernel_rfl
@[simp] theorem ty29 : tyOf Tryz.prog 29 = some (true, 4) := by kernel_rfl
@[simp] theorem zav29 : zAV Tryz.prog 29 [Value.slice none 0 0, Value.bool false, Value.slice none 0 0, Value.slice none 0 0] = [.nl 4, .lit (Value.bool false), .nl 1, .nl 1] := by kernel_rfl
@[simp] theorem z29 : zeroOf Tryz.prog 29 = some [Value.slice none 0 0, Value.bool false, Value.slice none 0 0, Value.slice none 0 0] := by kernel_rfl
@[simp] theorem fld29_0 : fldOf Tryz.prog 29 0 = some (0, false, 1) := by kernel_rfl
@[simp] theorem fld29_1 : fldOf Tryz.prog 29 1 = some (1, true, 3) := by kernel_rfl
@[simp] theorem pl29 : placesOf Tryz.prog 29 = some [(0, 1), (1, 3)] := by kernel_rfl
@[simp] theorem ty35 : tyOf Tryz.prog 35 = some (false, 1) := by kernel_rfl
@[simp] theorem zav35 : zAV Tryz.prog 35 [Value.slice none 0 0] = [.nl 1] := by kernel_rfl
@[simp] theorem z35 : zeroOf Tryz.prog 35 = some [Value.slice none 0 0] := by kernel_rfl
@[simp] theorem pl35 : placesOf Tryz.prog 35 = none := by kernel_rfl
@[simp] theorem el35 : elOf Tryz.prog 35 = some (5, false, 1, 1, [Value.int IntKind.u8 0]) := by kernel_rfl
@[simp] theorem by35 : bytT Tryz.prog 35 = some 5 := by kernel_rfl
@[simp] theorem ty38 : tyOf Tryz.prog 38 = some (true, 3) := by kernel_rfl
@[simp] theorem zav38 : zAV Tryz.prog 38 [Value.int IntKind.i64 0, Value.slice none 0 0, Value.slice none 0 0] = [.lit (Value.int IntKind.i64 0), .nl 4, .nl 4] := by kernel_rfl
@[simp] theorem z38 : zeroOf Tryz.prog 38 = some [Value.int IntKind.i64 0, Value.slice none 0 0, Value.slice none 0 0] := by kernel_rfl
@[simp] theorem fld38_0 : fldOf Tryz.prog 38 0 = some (0, false, 1) := by kernel_rfl
@[simp] theorem fld38_1 : fldOf Tryz.prog 38 1 = some (1, false, 1) := by kernel_rfl
@[simp] theorem fld38_2 : fldOf Tryz.prog 38 2 = some (2, false, 1) := by kernel_rfl
@[simp] theorem pl38 : placesOf Tryz.prog 38 = some [(0, 1), (1, 1), (2, 1)] := by kernel_rfl
@[simp] theorem ty40 : tyOf Tryz.prog 40 = some (false, 1) := by kernel_rfl
@[simp] theorem zav40 : zAV Tryz.prog 40 [Value.int IntKind.i64 0] = [.lit (Value.int IntKind.i64 0)] := by kernel_rfl
@[simp] theorem z40 : zeroOf Tryz.prog 40 = some [Value.int IntKind.i64 0] := by kernel_rfl
@[simp] theorem pl40 : placesOf Tryz.prog 40 = none := by kernel_rfl
@[simp] theorem in40 : intT Tryz.prog 40 = some .i64 := by kernel_rfl
@[simp] theorem un40 : Tryz.prog.underlying 40 = some (.int .i64) := by kernel_rfl
@[simp] theorem ty41 : tyOf Tryz.prog 41 = some (false, 1) := by kernel_rfl
@[simp] theorem zav41 : zAV Tryz.prog 41 [Value.tuple #[Value.agg #[Value.int IntKind.i64 0, Value.slice none 0 0, Value.slice none 0 0], Value.int IntKind.i64 0]] = [.lit (Value.tuple #[Value.agg #[Value.int IntKind.i64 0, Value.slice none 0 0, Value.slice none 0 0], Value.int IntKind.i64 0])] := by kernel_rfl
@[simp] theorem z41 : zeroOf Tryz.prog 41 = some [Value.tuple #[Value.agg #[Value.int IntKind.i64 0, Value.slice none 0 0, Value.slice none 0 0], Value.int IntKind.i64 0]] := by kernel_rfl
@[simp] theorem pl41 : placesOf Tryz.prog 41 = none := by kernel_rfl
@[simp] theorem ty47 : tyOf Tryz.prog 47 = some (false, 1) := by kernel_rfl
@[simp] theorem zav47 : zAV Tryz.prog 47 [Value.slice none 0 0] = [.nl 3] := by kernel_rfl
@[simp] theorem z47 : zeroOf Tryz.prog 47 = some [Value.slice none 0 0] := by kernel_rfl
@[simp] theorem pl47 : placesOf Tryz.prog 47 = none := by kernel_rfl
@[simp] theorem el47 : elOf Tryz.prog 47 = some (27, true, 3, 56, [Value.bool false, Value.slice none 0 0, Value.slice none 0 0]) := by kernel_rfl
@[simp] theorem ty53 : tyOf Tryz.prog 53 = some (false, 1) := by kernel_rfl
@[simp] theorem zav53 : zAV Tryz.prog 53 [Value.tuple #[Value.slice none 0 0, Value.int IntKind.i64 0]] = [.lit (Value.tuple #[Value.slice none 0 0, Value.int IntKind.i64 0])] := by kernel_rfl
@[simp] theorem z53 : zeroOf Tryz.prog 53 = some [Value.tuple #[Value.slice none 0 0, Value.int IntKind.i64 0]] := by kernel_rfl
@[simp] theorem pl53 : placesOf Tryz.prog 53 = none := by kernel_rfl
@[simp] theorem ty65 : tyOf Tryz.prog 65 = some (false, 1) := by kernel_rfl
@[simp] theorem pl65 : placesOf Tryz.prog 65 = none := by kernel_rfl
@[simp] theorem ty70 : tyOf Tryz.prog 70 = some (false, 1) := by kernel_rfl
@[simp] theorem pl70 : placesOf Tryz.prog 70 = none := by kernel_rfl
@[simp] theorem ty80 : tyOf Tryz.prog 80 = some (false, 1) := by kernel_rfl
@[simp] theorem zav80 : zAV Tryz.prog 80 [Value.tuple #[Value.agg #[Value.bool false, Value.slice none 0 0, Value.slice none 0 0], Value.int IntKind.i64 0]] = [.lit (Value.tuple #[Value.agg #[Value.bool false, Value.slice none 0 0, Value.slice none 0 0], Value.int IntKind.i64 0])] := by kernel_rfl
@[simp] theorem z80 : zeroOf Tryz.prog 80 = some [Value.tuple #[Value.agg #[Value.bool false, Value.slice none 0 0, Value.slice none 0 0], Value.int IntKind.i64 0]] := by kernel_rfl
@[simp] theorem pl80 : placesOf Tryz.prog 80 = none := by kernel_rfl
@[simp] theorem ty84 : tyOf Tryz.prog 84 = some (true, 4) := by kernel_rfl
@[simp] theorem zav84 : zAV Tryz.prog 84 [Value.int IntKind.i64 0, Value.bool false, Value.slice none 0 0, Value.slice none 0 0] = [.lit (Value.int IntKind.i64 0), .lit (Value.bool false), .nl 1, .nl 1] := by kernel_rfl
@[simp] theorem z84 : zeroOf Tryz.prog 84 = some [Value.int IntKind.i64 0, Value.bool false, Value.slice none 0 0, Value.slice none 0 0] := by kernel_rfl
@[simp] theorem fld84_0 : fldOf Tryz.prog 84 0 = some (0, false, 1) := by kernel_rfl
@[simp] theorem fld84_1 : fldOf Tryz.prog 84 1 = some (1, true, 3) := by kernel_rfl
@[simp] theorem pl84 : placesOf Tryz.prog 84 = some [(0, 1), (1, 3)] := by kernel_rfl
@[simp] theorem ty86 : tyOf Tryz.prog 86 = some (false, 1) := by kernel_rfl
@[simp] theorem zav86 : zAV Tryz.prog 86 [Value.pointer none] = [.lit (Value.pointer none)] := by kernel_rfl
@[simp] theorem z86 : zeroOf Tryz.prog 86 = some [Value.pointer none] := by kernel_rfl
@[simp] theorem pl86 : placesOf Tryz.prog 86 = none := by kernel_rfl
@[simp] theorem pt86 : ptT Tryz.prog 86 = some 88 := by kernel_rfl
@[simp] theorem ty88 : tyOf Tryz.prog 88 = some (true, 2) := by kernel_rfl
@[simp] theorem zav88 : zAV Tryz.prog 88 [Value.pointer none, Value.slice none 0 0] = [.lit (Value.pointer none), .nl 1] := by kernel_rfl
@[simp] theorem z88 : zeroOf Tryz.prog 88 = some [Value.pointer none, Value.slice none 0 0] := by kernel_rfl
@[simp] theorem fld88_0 : fldOf Tryz.prog 88 0 = some (0, false, 1) := by kernel_rfl
@[simp] theorem fld88_1 : fldOf Tryz.prog 88 1 = some (1, false, 1) := by kernel_rfl
@[simp] theorem pl88 : placesOf Tryz.prog 88 = some [(0, 1), (1, 1)] := by kernel_rfl
@[simp] theorem ty90 : tyOf Tryz.prog 90 = some (false, 1) := by kernel_rfl
@[simp] theorem pl90 : placesOf Tryz.prog 90 = none := by kernel_rfl
@[simp] theorem ty91 : tyOf Tryz.prog 91 = some (false, 1) := by kernel_rfl
@[simp] theorem zav91 : zAV Tryz.prog 91 [Value.tuple #[Value.int IntKind.i64 0, Value.nilIface]] = [.lit (Value.tuple #[Value.int IntKind.i64 0, Value.nilIface])] := by kernel_rfl
@[simp] theorem z91 : zeroOf Tryz.prog 91 = some [Value.tuple #[Value.int IntKind.i64 0, Value.nilIface]] := by kernel_rfl
@[simp] theorem pl91 : placesOf Tryz.prog 91 = none := by kernel_rfl
@[simp] theorem ty102 : tyOf Tryz.prog 102 = some (false, 1) := by kernel_rfl
@[simp] theorem pl102 : placesOf Tryz.prog 102 = none := by kernel_rfl
@[simp] theorem ty113 : tyOf Tryz.prog 113 = some (false, 1) := by kernel_rfl
@[simp] theorem zav113 : zAV Tryz.prog 113 [Value.tuple #[Value.slice none 0 0, Value.slice none 0 0, Value.int IntKind.i64 0]] = [.lit (Value.tuple #[Value.slice none 0 0, Value.slice none 0 0, Value.int IntKind.i64 0])] := by kernel_rfl
@[simp] theorem z113 : zeroOf Tryz.prog 113 = some [Value.tuple #[Value.slice none 0 0, Value.slice none 0 0, Value.int IntKind.i64 0]] := by kernel_rfl
@[simp] theorem pl113 : placesOf Tryz.prog 113 = none := by kernel_rfl
@[simp] theorem ty119 : tyOf Tryz.prog 119 = some (false, 1) := by kernel_rfl
@[simp] theorem pl119 : placesOf Tryz.prog 119 = none := by kernel_rfl
@[simp] theorem ty121 : tyOf Tryz.prog 121 = some (true, 2) := by kernel_rfl
@[simp] theorem zav121 : zAV Tryz.prog 121 [Value.bool false, Value.slice none 0 0] = [.lit (Value.bool false), .nl 1] := by kernel_rfl
@[simp] theorem z121 : zeroOf Tryz.prog 121 = some [Value.bool false, Value.slice none 0 0] := by kernel_rfl
@[simp] theorem fld121_0 : fldOf Tryz.prog 121 0 = some (0, false, 1) := by kernel_rfl
@[simp] theorem fld121_1 : fldOf Tryz.prog 121 1 = some (1, false, 1) := by kernel_rfl
@[simp] theorem pl121 : placesOf Tryz.prog 121 = some [(0, 1), (1, 1)] := by kernel_rfl
@[simp] theorem ty129 : tyOf Tryz.prog 129 = some (false, 1) := by kernel_rfl
@[simp] theorem pl129 : placesOf Tryz.prog 129 = none := by kernel_rfl
@[simp] theorem ty139 : tyOf Tryz.prog 139 = some (false, 1) := by kernel_rfl
@[simp] theorem zav139 : zAV Tryz.prog 139 [Value.int IntKind.u64 0] = [.lit (Value.int IntKind.u64 0)] := by kernel_rfl
@[simp] theorem z139 : zeroOf Tryz.prog 139 = some [Value.int IntKind.u64 0] := by kernel_rfl
@[simp] theorem pl139 : placesOf Tryz.prog 139 = none := by kernel_rfl
@[simp] theorem in139 : intT Tryz.prog 139 = some .u64 := by kernel_rfl
@[simp] theorem un139 : Tryz.prog.underlying 139 = some (.int .u64) := by kernel_rfl
@[simp] theorem ty153 : tyOf Tryz.prog 153 = some (false, 1) := by kernel_rfl
@[simp] theorem zav153 : zAV Tryz.prog 153 [Value.pointer none] = [.lit (Value.pointer none)] := by kernel_rfl
@[simp] theorem z153 : zeroOf Tryz.prog 153 = some [Value.pointer none] := by kernel_rfl
@[simp] theorem pl153 : placesOf Tryz.prog 153 = none := by kernel_rfl
@[simp] theorem pt153 : ptT Tryz.prog 153 = some 5 := by kernel_rfl
@[simp] theorem ty171 : tyOf Tryz.prog 171 = some (false, 1) := by kernel_rfl
@[simp] theorem pl171 : placesOf Tryz.prog 171 = none := by kernel_rfl
@[simp] theorem ty176 : tyOf Tryz.prog 176 = some (false, 1) := by kernel_rfl
@[simp] theorem zav176 : zAV Tryz.prog 176 [Value.tuple #[Value.slice none 0 0, Value.slice none 0 0, Value.int IntKind.i64 0]] = [.lit (Value.tuple #[Value.slice none 0 0, Value.slice none 0 0, Value.int IntKind.i64 0])] := by kernel_rfl
@[simp] theorem z176 : zeroOf Tryz.prog 176 = some [Value.tuple #[Value.slice none 0 0, Value.slice none 0 0, Value.int IntKind.i64 0]] := by kernel_rfl
@[simp] theorem pl176 : placesOf Tryz.prog 176 = none := by kernel_rfl
@[simp] theorem ty178 : tyOf Tryz.prog 178 = some (false, 1) := by kernel_rfl
@[simp] theorem zav178 : zAV Tryz.prog 178 [Value.int IntKind.u32 0] = [.lit (Value.int IntKind.u32 0)] := by kernel_rfl
@[simp] theorem z178 : zeroOf Tryz.prog 178 = some [Value.int IntKind.u32 0] := by kernel_rfl
@[simp] theorem pl178 : placesOf Tryz.prog 178 = none := by kernel_rfl
@[simp] theorem in178 : intT Tryz.prog 178 = some .u32 := by kernel_rfl
@[simp] theorem un178 : Tryz.prog.underlying 178 = some (.int .u32) := by kernel_rfl
@[simp] theorem ty179 : tyOf Tryz.prog 179 = some (false, 1) := by kernel_rfl
@[simp] theorem zav179 : zAV Tryz.prog 179 [Value.tuple #[Value.int IntKind.u64 0, Value.bool false]] = [.lit (Value.tuple #[Value.int IntKind.u64 0, Value.bool false])] := by kernel_rfl
@[simp] theorem z179 : zeroOf Tryz.prog 179 = some [Value.tuple #[Value.int IntKind.u64 0, Value.bool false]] := by kernel_rfl
@[simp] theorem pl179 : placesOf Tryz.prog 179 = none := by kernel_rfl
@[simp] theorem ty181 : tyOf Tryz.prog 181 = some (false, 1) := by kernel_rfl
@[simp] theorem zav181 : zAV Tryz.prog 181 [Value.int IntKind.u64 0] = [.lit (Value.int IntKind.u64 0)] := by kernel_rfl
@[simp] theorem z181 : zeroOf Tryz.prog 181 = some [Value.int IntKind.u64 0] := by kernel_rfl
@[simp] theorem pl181 : placesOf Tryz.prog 181 = none := by kernel_rfl
@[simp] theorem in181 : intT Tryz.prog 181 = some .u64 := by kernel_rfl
@[simp] theorem un181 : Tryz.prog.underlying 181 = some (.int .u64) := by kernel_rfl
@[simp] theorem ty184 : tyOf Tryz.prog 184 = some (false, 1) := by kernel_rfl
@[simp] theorem zav184 : zAV Tryz.prog 184 [Value.tuple #[Value.agg #[Value.bool false, Value.slice none 0 0], Value.agg #[Value.bool false, Value.slice none 0 0]]] = [.lit (Value.tuple #[Value.agg #[Value.bool false, Value.slice none 0 0], Value.agg #[Value.bool false, Value.slice none 0 0]])] := by kernel_rfl
@[simp] theorem z184 : zeroOf Tryz.prog 184 = some [Value.tuple #[Value.agg #[Value.bool false, Value.slice none 0 0], Value.agg #[Value.bool false, Value.slice none 0 0]]] := by kernel_rfl
@[simp] theorem pl184 : placesOf Tryz.prog 184 = none := by kernel_rfl
@[simp] theorem ty189 : tyOf Tryz.prog 189 = some (false, 1) := by kernel_rfl
@[simp] theorem zav189 : zAV Tryz.prog 189 [Value.pointer none] = [.lit (Value.pointer none)] := by kernel_rfl
@[simp] theorem z189 : zeroOf Tryz.prog 189 = some [Value.pointer none] := by kernel_rfl
@[simp] theorem pl189 : placesOf Tryz.prog 189 = none := by kernel_rfl
@[simp] theorem ty196 : tyOf Tryz.prog 196 = some (false, 1) := by kernel_rfl
@[simp] theorem zav196 : zAV Tryz.prog 196 [Value.slice none 0 0] = [.nl 1] := by kernel_rfl
@[simp] theorem z196 : zeroOf Tryz.prog 196 = some [Value.slice none 0 0] := by kernel_rfl
@[simp] theorem pl196 : placesOf Tryz.prog 196 = none := by kernel_rfl
@[simp] theorem el196 : elOf Tryz.prog 196 = some (9, false, 1, 16, [Value.string { data := #[] }]) := by kernel_rfl
@[simp] theorem ty202 : tyOf Tryz.prog 202 = some (false, 1) := by kernel_rfl
@[simp] theorem zav202 : zAV Tryz.prog 202 [Value.tuple #[Value.slice none 0 0, Value.int IntKind.i64 0]] = [.lit (Value.tuple #[Value.slice none 0 0, Value.int IntKind.i64 0])] := by kernel_rfl
@[simp] theorem z202 : zeroOf Tryz.prog 202 = some [Value.tuple #[Value.slice none 0 0, Value.int IntKind.i64 0]] := by kernel_rfl
@[simp] theorem pl202 : placesOf Tryz.prog 202 = none := by kernel_rfl
@[simp] theorem ty207 : tyOf Tryz.prog 207 = some (false, 1) := by kernel_rfl
@[simp] theorem zav207 : zAV Tryz.prog 207 [Value.tuple #[Value.slice none 0 0, Value.slice none 0 0]] = [.lit (Value.tuple #[Value.slice none 0 0, Value.slice none 0 0])] := by kernel_rfl
@[simp] theorem z207 : zeroOf Tryz.prog 207 = some [Value.tuple #[Value.slice none 0 0, Value.slice none 0 0]] := by kernel_rfl
@[simp] theorem pl207 : placesOf Tryz.prog 207 = none := by kernel_rfl
@[simp] theorem ty212 : tyOf Tryz.prog 212 = some (true, 24) := by kernel_rfl
@[simp] theorem zav212 : zAV Tryz.prog 212 [Value.int IntKind.u8 0, Value.int IntKind.u8 0, Value.int IntKind.u8 0, Value.int IntKind.u8 0, Value.int IntKind.u8 0, Value.int IntKind.u8 0, Value.int IntKind.u8 0, Value.int IntKind.u8 0, Value.int IntKind.u8 0, Value.int IntKind.u8 0, Value.int IntKind.u8 0, Value.int IntKind.u8 0, Value.int IntKind.u8 0, Value.int IntKind.u8 0, Value.int IntKind.u8 0, Value.int IntKind.u8 0, Value.int IntKind.u8 0, Value.int IntKind.u8 0, Value.int IntKind.u8 0, Value.int IntKind.u8 0, Value.int IntKind.u8 0, Value.int IntKind.u8 0, Value.int IntKind.u8 0, Value.int IntKind.u8 0] = [.lit (Value.int IntKind.u8 0), .lit (Value.int IntKind.u8 0), .lit (Value.int IntKind.u8 0), .lit (Value.int IntKind.u8 0), .lit (Value.int IntKind.u8 0), .lit (Value.int IntKind.u8 0), .lit (Value.int IntKind.u8 0), .lit (Value.int IntKind.u8 0), .lit (Value.int IntKind.u8 0), .lit (Value.int IntKind.u8 0), .lit (Value.int IntKind.u8 0), .lit (Value.int IntKind.u8 0), .lit (Value.int IntKind.u8 0), .lit (Value.int IntKind.u8 0), .lit (Value.int IntKind.u8 0), .lit (Value.int IntKind.u8 0), .lit (Value.int IntKind.u8 0), .lit (Value.int IntKind.u8 0), .lit (Value.int IntKind.u8 0), .lit (Value.int IntKind.u8 0), .lit (Value.int IntKind.u8 0), .lit (Value.int IntKind.u8 0), .lit (Value.int IntKind.u8 0), .lit (Value.int IntKind.u8 0)] := by kernel_rfl
@[simp] theorem z212 : zeroOf Tryz.prog 212 = some [Value.int IntKind.u8 0, Value.int IntKind.u8 0, Value.int IntKind.u8 0, Value.int IntKind.u8 0, Value.int IntKind.u8 0, Value.int IntKind.u8 0, Value.int IntKind.u8 0, Value.int IntKind.u8 0, Value.int IntKind.u8 0, Value.int IntKind.u8 0, Value.int IntKind.u8 0, Value.int IntKind.u8 0, Value.int IntKind.u8 0, Value.int IntKind.u8 0, Value.int IntKind.u8 0, Value.int IntKind.u8 0, Value.int IntKind.u8 0, Value.int IntKind.u8 0, Value.int IntKind.u8 0, Value.int IntKind.u8 0, Value.int IntKind.u8 0, Value.int IntKind.u8 0, Value.int IntKind.u8 0, Value.int IntKind.u8 0] := by kernel_rfl
@[simp] theorem pl212 : placesOf Tryz.prog 212 = none := by kernel_rfl
@[simp] theorem ar212 : arOf Tryz.prog 212 = some (24, false, 1) := by kernel_rfl
@[simp] theorem nel212 : elOf Tryz.prog 212 = none := by kernel_rfl
@[simp] theorem ty215 : tyOf Tryz.prog 215 = some (false, 1) := by kernel_rfl
@[simp] theorem zav215 : zAV Tryz.prog 215 [Value.tuple #[Value.slice none 0 0, Value.string { data := #[] }]] = [.lit (Value.tuple #[Value.slice none 0 0, Value.string { data := #[] }])] := by kernel_rfl
@[simp] theorem z215 : zeroOf Tryz.prog 215 = some [Value.tuple #[Value.slice none 0 0, Value.string { data := #[] }]] := by kernel_rfl
@[simp] theorem pl215 : placesOf Tryz.prog 215 = none := by kernel_rfl
@[simp] theorem ty218 : tyOf Tryz.prog 218 = some (false, 1) := by kernel_rfl
@[simp] theorem zav218 : zAV Tryz.prog 218 [Value.tuple #[Value.int IntKind.u64 0, Value.int IntKind.u64 0]] = [.lit (Value.tuple #[Value.int IntKind.u64 0, Value.int IntKind.u64 0])] := by kernel_rfl
@[simp] theorem z218 : zeroOf Tryz.prog 218 = some [Value.tuple #[Value.int IntKind.u64 0, Value.int IntKind.u64 0]] := by kernel_rfl
@[simp] theorem pl218 : placesOf Tryz.prog 218 = none := by kernel_rfl
@[simp] theorem ty224 : tyOf Tryz.prog 224 = some (true, 20) := by kernel_rfl
@[simp] theorem zav224 : zAV Tryz.prog 224 [Value.int IntKind.u64 0, Value.int IntKind.u64 0, Value.int IntKind.u64 0, Value.int IntKind.u64 0, Value.int IntKind.u64 0, Value.int IntKind.u64 0, Value.int IntKind.u64 0, Value.int IntKind.u64 0, Value.int IntKind.u64 0, Value.int IntKind.u64 0, Value.int IntKind.u64 0, Value.int IntKind.u64 0, Value.int IntKind.u64 0, Value.int IntKind.u64 0, Value.int IntKind.u64 0, Value.int IntKind.u64 0, Value.int IntKind.u64 0, Value.int IntKind.u64 0, Value.int IntKind.u64 0, Value.int IntKind.u64 0] = [.lit (Value.int IntKind.u64 0), .lit (Value.int IntKind.u64 0), .lit (Value.int IntKind.u64 0), .lit (Value.int IntKind.u64 0), .lit (Value.int IntKind.u64 0), .lit (Value.int IntKind.u64 0), .lit (Value.int IntKind.u64 0), .lit (Value.int IntKind.u64 0), .lit (Value.int IntKind.u64 0), .lit (Value.int IntKind.u64 0), .lit (Value.int IntKind.u64 0), .lit (Value.int IntKind.u64 0), .lit (Value.int IntKind.u64 0), .lit (Value.int IntKind.u64 0), .lit (Value.int IntKind.u64 0), .lit (Value.int IntKind.u64 0), .lit (Value.int IntKind.u64 0), .lit (Value.int IntKind.u64 0), .lit (Value.int IntKind.u64 0), .lit (Value.int IntKind.u64 0)] := by kernel_rfl
@[simp] theorem z224 : zeroOf Tryz.prog 224 = some [Value.int IntKind.u64 0, Value.int IntKind.u64 0, Value.int IntKind.u64 0, Value.int IntKind.u64 0, Value.int IntKind.u64 0, Value.int IntKind.u64 0, Value.int IntKind.u64 0, Value.int IntKind.u64 0, Value.int IntKind.u64 0, Value.int IntKind.u64 0, Value.int IntKind.u64 0, Value.int IntKind.u64 0, Value.int IntKind.u64 0, Value.int IntKind.u64 0, Value.int IntKind.u64 0, Value.int IntKind.u64 0, Value.int IntKind.u64 0, Value.int IntKind.u64 0, Value.int IntKind.u64 0, Value.int IntKind.u64 0] := by kernel_rfl
@[simp] theorem pl224 : placesOf Tryz.prog 224 = none := by kernel_rfl
@[simp] theorem ar224 : arOf Tryz.prog 224 = some (20, false, 1) := by kernel_rfl
@[simp] theorem nel224 : elOf Tryz.prog 224 = none := by kernel_rfl
@[simp] theorem ty225 : tyOf Tryz.prog 225 = some (true, 65) := by kernel_rfl
@[simp] theorem pl225 : placesOf Tryz.prog 225 = none := by kernel_rfl
@[simp] theorem ar225 : arOf Tryz.prog 225 = some (65, false, 1) := by kernel_rfl
@[simp] theorem nel225 : elOf Tryz.prog 225 = none := by kernel_rfl
@[simp] theorem ty228 : tyOf Tryz.prog 228 = some (false, 1) := by kernel_rfl
@[simp] theorem zav228 : zAV Tryz.prog 228 [Value.tuple #[Value.int IntKind.u32 0, Value.int IntKind.u32 0]] = [.lit (Value.tuple #[Value.int IntKind.u32 0, Value.int IntKind.u32 0])] := by kernel_rfl
@[simp] theorem z228 : zeroOf Tryz.prog 228 = some [Value.tuple #[Value.int IntKind.u32 0, Value.int IntKind.u32 0]] := by kernel_rfl
@[simp] theorem pl228 : placesOf Tryz.prog 228 = none := by kernel_rfl
@[simp] theorem ty230 : tyOf Tryz.prog 230 = some (false, 1) := by kernel_rfl
@[simp] theorem zav230 : zAV Tryz.prog 230 [Value.tuple #[Value.int IntKind.u64 0, Value.int IntKind.u64 0]] = [.lit (Value.tuple #[Value.int IntKind.u64 0, Value.int IntKind.u64 0])] := by kernel_rfl
@[simp] theorem z230 : zeroOf Tryz.prog 230 = some [Value.tuple #[Value.int IntKind.u64 0, Value.int IntKind.u64 0]] := by kernel_rfl
@[simp] theorem pl230 : placesOf Tryz.prog 230 = none := by kernel_rfl
@[simp] theorem ty245 : tyOf Tryz.prog 245 = some (true, 32) := by kernel_rfl
@[simp] theorem zav245 : zAV Tryz.prog 245 [Value.int IntKind.u8 0, Value.int IntKind.u8 0, Value.int IntKind.u8 0, Value.int IntKind.u8 0, Value.int IntKind.u8 0, Value.int IntKind.u8 0, Value.int IntKind.u8 0, Value.int IntKind.u8 0, Value.int IntKind.u8 0, Value.int IntKind.u8 0, Value.int IntKind.u8 0, Value.int IntKind.u8 0, Value.int IntKind.u8 0, Value.int IntKind.u8 0, Value.int IntKind.u8 0, Value.int IntKind.u8 0, Value.int IntKind.u8 0, Value.int IntKind.u8 0, Value.int IntKind.u8 0, Value.int IntKind.u8 0, Value.int IntKind.u8 0, Value.int IntKind.u8 0, Value.int IntKind.u8 0, Value.int IntKind.u8 0, Value.int IntKind.u8 0, Value.int IntKind.u8 0, Value.int IntKind.u8 0, Value.int IntKind.u8 0, Value.int IntKind.u8 0, Value.int IntKind.u8 0, Value.int IntKind.u8 0, Value.int IntKind.u8 0] = [.lit (Value.int IntKind.u8 0), .lit (Value.int IntKind.u8 0), .lit (Value.int IntKind.u8 0), .lit (Value.int IntKind.u8 0), .lit (Value.int IntKind.u8 0), .lit (Value.int IntKind.u8 0), .lit (Value.int IntKind.u8 0), .lit (Value.int IntKind.u8 0), .lit (Value.int IntKind.u8 0), .lit (Value.int IntKind.u8 0), .lit (Value.int IntKind.u8 0), .lit (Value.int IntKind.u8 0), .lit (Value.int IntKind.u8 0), .lit (Value.int IntKind.u8 0), .lit (Value.int IntKind.u8 0), .lit (Value.int IntKind.u8 0), .lit (Value.int IntKind.u8 0), .lit (Value.int IntKind.u8 0), .lit (Value.int IntKind.u8 0), .lit (Value.int IntKind.u8 0), .lit (Value.int IntKind.u8 0), .lit (Value.int IntKind.u8 0), .lit (Value.int IntKind.u8 0), .lit (Value.int IntKind.u8 0), .lit (Value.int IntKind.u8 0), .lit (Value.int IntKind.u8 0), .lit (Value.int IntKind.u8 0), .lit (Value.int IntKind.u8 0), .lit (Value.int IntKind.u8 0), .lit (Value.int IntKind.u8 0), .lit (Value.int IntKind.u8 0), .lit (Value.int IntKind.u8 0)] := by kernel_rfl
@[simp] theorem z245 : zeroOf Tryz.prog 245 = some [Value.int IntKind.u8 0, Value.int IntKind.u8 0, Value.int IntKind.u8 0, Value.int IntKind.u8 0, Value.int IntKind.u8 0, Value.int IntKind.u8 0, Value.int IntKind.u8 0, Value.int IntKind.u8 0, Value.int IntKind.u8 0, Value.int IntKind.u8 0, Value.int IntKind.u8 0, Value.int IntKind.u8 0, Value.int IntKind.u8 0, Value.int IntKind.u8 0, Value.int IntKind.u8 0, Value.int IntKind.u8 0, Value.int IntKind.u8 0, Value.int IntKind.u8 0, Value.int IntKind.u8 0, Value.int IntKind.u8 0, Value.int IntKind.u8 0, Value.int IntKind.u8 0, Value.int IntKind.u8 0, Value.int IntKind.u8 0, Value.int IntKind.u8 0, Value.int IntKind.u8 0, Value.int IntKind.u8 0, Value.int IntKind.u8 0, Value.int IntKind.u8 0, Value.int IntKind.u8 0, Value.int IntKind.u8 0, Value.int IntKind.u8 0] := by kernel_rfl
@[simp] theorem pl245 : placesOf Tryz.prog 245 = none := by kernel_rfl
@[simp] theorem ar245 : arOf Tryz.prog 245 = some (32, false, 1) := by kernel_rfl
@[simp] theorem nel245 : elOf Tryz.prog 245 = none := by kernel_rfl
@[simp] theorem ty246 : tyOf Tryz.prog 246 = some (true, 64) := by kernel_rfl
@[simp] theorem pl246 : placesOf Tryz.prog 246 = none := by kernel_rfl
@[simp] theorem ar246 : arOf Tryz.prog 246 = some (64, false, 1) := by kernel_rfl
@[simp] theorem nel246 : elOf Tryz.prog 246 = none := by kernel_rfl
end Go.Proofs.YtlpmemelhlnfbaaGreatDoor
