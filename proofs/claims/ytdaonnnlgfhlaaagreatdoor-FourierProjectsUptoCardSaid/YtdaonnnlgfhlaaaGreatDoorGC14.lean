import Derived.Test.YtdaonnnlgfhlaaaGreatDoorGC13
import Derived.Test.YtdaonnnlgfhlaaaGreatDoorProg
import Derived.KernelRfl
set_option linter.all false
namespace Go.Proofs.YtdaonnnlgfhlaaaGreatDoor
section
open Go.RowKit
@[simp] theorem ty0:tyOf Tryz.prog 0=some (false,1):=by kernel_rfl
@[simp] theorem zav0:zAV Tryz.prog 0 [Value.tuple #[]]=[.lit (Value.tuple #[])]:=by kernel_rfl
@[simp] theorem z0:zeroOf Tryz.prog 0=some [Value.tuple #[]]:=by kernel_rfl
@[simp] theorem pl0:placesOf Tryz.prog 0=none:=by kernel_rfl
@[simp] theorem ty1:tyOf Tryz.prog 1=some (false,1):=by kernel_rfl
@[simp] theorem zav1:zAV Tryz.prog 1 [Value.nilFunc]=[.lit (Value.nilFunc)]:=by kernel_rfl
@[simp] theorem z1:zeroOf Tryz.prog 1=some [Value.nilFunc]:=by kernel_rfl
@[simp] theorem pl1:placesOf Tryz.prog 1=none:=by kernel_rfl
@[simp] theorem ty2:tyOf Tryz.prog 2=some (false,1):=by kernel_rfl
@[simp] theorem zav2:zAV Tryz.prog 2 [Value.int IntKind.i64 0]=[.lit (Value.int IntKind.i64 0)]:=by kernel_rfl
@[simp] theorem z2:zeroOf Tryz.prog 2=some [Value.int IntKind.i64 0]:=by kernel_rfl
@[simp] theorem pl2:placesOf Tryz.prog 2=none:=by kernel_rfl
@[simp] theorem in2:intT Tryz.prog 2=some .i64:=by kernel_rfl
@[simp] theorem un2: Tryz.prog.underlying 2=some (.int .i64):=by kernel_rfl
@[simp] theorem ty3:tyOf Tryz.prog 3=some (false,1):=by kernel_rfl
@[simp] theorem zav3:zAV Tryz.prog 3 [Value.int IntKind.i64 0]=[.lit (Value.int IntKind.i64 0)]:=by kernel_rfl
@[simp] theorem z3:zeroOf Tryz.prog 3=some [Value.int IntKind.i64 0]:=by kernel_rfl
@[simp] theorem pl3:placesOf Tryz.prog 3=none:=by kernel_rfl
@[simp] theorem in3:intT Tryz.prog 3=some .i64:=by kernel_rfl
@[simp] theorem un3: Tryz.prog.underlying 3=some (.int .i64):=by kernel_rfl
@[simp] theorem ty4:tyOf Tryz.prog 4=some (false,1):=by kernel_rfl
@[simp] theorem zav4:zAV Tryz.prog 4 [Value.bool false]=[.lit (Value.bool false)]:=by kernel_rfl
@[simp] theorem z4:zeroOf Tryz.prog 4=some [Value.bool false]:=by kernel_rfl
@[simp] theorem pl4:placesOf Tryz.prog 4=none:=by kernel_rfl
@[simp] theorem bo4:boolT Tryz.prog 4=true:=by kernel_rfl
@[simp] theorem ty5:tyOf Tryz.prog 5=some (false,1):=by kernel_rfl
@[simp] theorem zav5:zAV Tryz.prog 5 [Value.int IntKind.u8 0]=[.lit (Value.int IntKind.u8 0)]:=by kernel_rfl
@[simp] theorem z5:zeroOf Tryz.prog 5=some [Value.int IntKind.u8 0]:=by kernel_rfl
@[simp] theorem pl5:placesOf Tryz.prog 5=none:=by kernel_rfl
@[simp] theorem in5:intT Tryz.prog 5=some .u8:=by kernel_rfl
@[simp] theorem un5: Tryz.prog.underlying 5=some (.int .u8):=by kernel_rfl
@[simp] theorem ty9:tyOf Tryz.prog 9=some (false,1):=by kernel_rfl
@[simp] theorem zav9:zAV Tryz.prog 9 [Value.string {data:=#[]}]=[.lit (Value.string {data:=#[]})]:=by kernel_rfl
@[simp] theorem z9:zeroOf Tryz.prog 9=some [Value.string {data:=#[]}]:=by kernel_rfl
@[simp] theorem pl9:placesOf Tryz.prog 9=none:=by kernel_rfl
@[simp] theorem st9:strT Tryz.prog 9=true:=by kernel_rfl
@[simp] theorem ty20:tyOf Tryz.prog 20=some (false,1):=by kernel_rfl
@[simp] theorem pl20:placesOf Tryz.prog 20=none:=by kernel_rfl
@[simp] theorem if20:ifT Tryz.prog 20=true:=by kernel_rfl
@[simp] theorem ty22:tyOf Tryz.prog 22=some (false,1):=by kernel_rfl
@[simp] theorem zav22:zAV Tryz.prog 22 [Value.slice none 0 0]=[.nl 4]:=by kernel_rfl
@[simp] theorem z22:zeroOf Tryz.prog 22=some [Value.slice none 0 0]:=by kernel_rfl
@[simp] theorem pl22:placesOf Tryz.prog 22=none:=by kernel_rfl
@[simp] theorem el22:elOf Tryz.prog 22=some (68,true,4,64,[Value.int IntKind.i64 0,Value.bool false,Value.slice none 0 0,Value.slice none 0 0]):=by kernel_rfl
@[simp] theorem ty23:tyOf Tryz.prog 23=some (false,1):=by kernel_rfl
@[simp] theorem zav23:zAV Tryz.prog 23 [Value.slice none 0 0]=[.nl 1]:=by kernel_rfl
@[simp] theorem z23:zeroOf Tryz.prog 23=some [Value.slice none 0 0]:=by kernel_rfl
@[simp] theorem pl23:placesOf Tryz.prog 23=none:=by kernel_rfl
@[simp] theorem el23:elOf Tryz.prog 23=some (114,false,1,4,[Value.int IntKind.u32 0]):=by kernel_rfl
@[simp] theorem ty24:tyOf Tryz.prog 24=some (false,1):=by kernel_rfl
@[simp] theorem zav24:zAV Tryz.prog 24 [Value.slice none 0 0]=[.nl 1]:=by kernel_rfl
@[simp] theorem z24:zeroOf Tryz.prog 24=some [Value.slice none 0 0]:=by kernel_rfl
@[simp] theorem pl24:placesOf Tryz.prog 24=none:=by kernel_rfl
@[simp] theorem el24:elOf Tryz.prog 24=some (114,false,1,4,[Value.int IntKind.u32 0]):=by kernel_rfl
@[simp] theorem ty26:tyOf Tryz.prog 26=some (true,3):=by kernel_rfl
@[simp] theorem zav26:zAV Tryz.prog 26 [Value.bool false,Value.slice none 0 0,Value.slice none 0 0]=[.lit (Value.bool false),.nl 1,.nl 1]:=by kernel_rfl
@[simp] theorem z26:zeroOf Tryz.prog 26=some [Value.bool false,Value.slice none 0 0,Value.slice none 0 0]:=by kernel_rfl
@[simp] theorem fld26_0:fldOf Tryz.prog 26 0=some (0,false,1):=by kernel_rfl
@[simp] theorem fld26_1:fldOf Tryz.prog 26 1=some (1,false,1):=by kernel_rfl
@[simp] theorem fld26_2:fldOf Tryz.prog 26 2=some (2,false,1):=by kernel_rfl
@[simp] theorem pl26:placesOf Tryz.prog 26=some [(0,1),(1,1),(2,1)]:=by kernel_rfl
@[simp] theorem ty28:tyOf Tryz.prog 28=some (true,4):=by kernel_rfl
@[simp] theorem zav28:zAV Tryz.prog 28 [Value.slice none 0 0,Value.bool false,Value.slice none 0 0,Value.slice none 0 0]=[.nl 4,.lit (Value.bool false),.nl 1,.nl 1]:=by kernel_rfl
@[simp] theorem z28:zeroOf Tryz.prog 28=some [Value.slice none 0 0,Value.bool false,Value.slice none 0 0,Value.slice none 0 0]:=by kernel_rfl
@[simp] theorem fld28_0:fldOf Tryz.prog 28 0=some (0,false,1):=by kernel_rfl
@[simp] theorem fld28_1:fldOf Tryz.prog 28 1=some (1,true,3):=by kernel_rfl
@[simp] theorem pl28:placesOf Tryz.prog 28=some [(0,1),(1,3)]:=by kernel_rfl
@[simp] theorem ty29:tyOf Tryz.prog 29=some (false,1):=by kernel_rfl
@[simp] theorem zav29:zAV Tryz.prog 29 [Value.slice none 0 0]=[.nl 3]:=by kernel_rfl
@[simp] theorem z29:zeroOf Tryz.prog 29=some [Value.slice none 0 0]:=by kernel_rfl
@[simp] theorem pl29:placesOf Tryz.prog 29=none:=by kernel_rfl
@[simp] theorem el29:elOf Tryz.prog 29=some (26,true,3,56,[Value.bool false,Value.slice none 0 0,Value.slice none 0 0]):=by kernel_rfl
@[simp] theorem ty34:tyOf Tryz.prog 34=some (false,1):=by kernel_rfl
@[simp] theorem zav34:zAV Tryz.prog 34 [Value.int IntKind.i64 0]=[.lit (Value.int IntKind.i64 0)]:=by kernel_rfl
@[simp] theorem z34:zeroOf Tryz.prog 34=some [Value.int IntKind.i64 0]:=by kernel_rfl
@[simp] theorem pl34:placesOf Tryz.prog 34=none:=by kernel_rfl
@[simp] theorem in34:intT Tryz.prog 34=some .i64:=by kernel_rfl
@[simp] theorem un34: Tryz.prog.underlying 34=some (.int .i64):=by kernel_rfl
@[simp] theorem ty35:tyOf Tryz.prog 35=some (false,1):=by kernel_rfl
@[simp] theorem zav35:zAV Tryz.prog 35 [Value.tuple #[Value.agg #[Value.bool false,Value.slice none 0 0,Value.slice none 0 0],Value.int IntKind.i64 0]]=[.lit (Value.tuple #[Value.agg #[Value.bool false,Value.slice none 0 0,Value.slice none 0 0],Value.int IntKind.i64 0])]:=by kernel_rfl
@[simp] theorem z35:zeroOf Tryz.prog 35=some [Value.tuple #[Value.agg #[Value.bool false,Value.slice none 0 0,Value.slice none 0 0],Value.int IntKind.i64 0]]:=by kernel_rfl
@[simp] theorem pl35:placesOf Tryz.prog 35=none:=by kernel_rfl
@[simp] theorem ty40:tyOf Tryz.prog 40=some (false,1):=by kernel_rfl
@[simp] theorem zav40:zAV Tryz.prog 40 [Value.slice none 0 0]=[.nl 4]:=by kernel_rfl
@[simp] theorem z40:zeroOf Tryz.prog 40=some [Value.slice none 0 0]:=by kernel_rfl
@[simp] theorem pl40:placesOf Tryz.prog 40=none:=by kernel_rfl
@[simp] theorem el40:elOf Tryz.prog 40=some (28,true,4,80,[Value.slice none 0 0,Value.bool false,Value.slice none 0 0,Value.slice none 0 0]):=by kernel_rfl
@[simp] theorem ty42:tyOf Tryz.prog 42=some (false,1):=by kernel_rfl
@[simp] theorem zav42:zAV Tryz.prog 42 [Value.tuple #[Value.slice none 0 0,Value.int IntKind.i64 0]]=[.lit (Value.tuple #[Value.slice none 0 0,Value.int IntKind.i64 0])]:=by kernel_rfl
@[simp] theorem z42:zeroOf Tryz.prog 42=some [Value.tuple #[Value.slice none 0 0,Value.int IntKind.i64 0]]:=by kernel_rfl
@[simp] theorem pl42:placesOf Tryz.prog 42=none:=by kernel_rfl
@[simp] theorem ty46:tyOf Tryz.prog 46=some (false,1):=by kernel_rfl
@[simp] theorem zav46:zAV Tryz.prog 46 [Value.int IntKind.i8 0]=[.lit (Value.int IntKind.i8 0)]:=by kernel_rfl
@[simp] theorem z46:zeroOf Tryz.prog 46=some [Value.int IntKind.i8 0]:=by kernel_rfl
@[simp] theorem pl46:placesOf Tryz.prog 46=none:=by kernel_rfl
@[simp] theorem in46:intT Tryz.prog 46=some .i8:=by kernel_rfl
@[simp] theorem un46: Tryz.prog.underlying 46=some (.int .i8):=by kernel_rfl
@[simp] theorem ty47:tyOf Tryz.prog 47=some (true,4):=by kernel_rfl
@[simp] theorem zav47:zAV Tryz.prog 47 [Value.int IntKind.i8 0,Value.int IntKind.i8 0,Value.int IntKind.i8 0,Value.int IntKind.i8 0]=[.lit (Value.int IntKind.i8 0),.lit (Value.int IntKind.i8 0),.lit (Value.int IntKind.i8 0),.lit (Value.int IntKind.i8 0)]:=by kernel_rfl
@[simp] theorem z47:zeroOf Tryz.prog 47=some [Value.int IntKind.i8 0,Value.int IntKind.i8 0,Value.int IntKind.i8 0,Value.int IntKind.i8 0]:=by kernel_rfl
@[simp] theorem pl47:placesOf Tryz.prog 47=none:=by kernel_rfl
@[simp] theorem ar47:arOf Tryz.prog 47=some (4,false,1):=by kernel_rfl
@[simp] theorem nel47:elOf Tryz.prog 47=none:=by kernel_rfl
@[simp] theorem ty56:tyOf Tryz.prog 56=some (false,1):=by kernel_rfl
@[simp] theorem zav56:zAV Tryz.prog 56 [Value.tuple #[Value.bool false,Value.int IntKind.i64 0]]=[.lit (Value.tuple #[Value.bool false,Value.int IntKind.i64 0])]:=by kernel_rfl
@[simp] theorem z56:zeroOf Tryz.prog 56=some [Value.tuple #[Value.bool false,Value.int IntKind.i64 0]]:=by kernel_rfl
@[simp] theorem pl56:placesOf Tryz.prog 56=none:=by kernel_rfl
@[simp] theorem ty62:tyOf Tryz.prog 62=some (false,1):=by kernel_rfl
@[simp] theorem zav62:zAV Tryz.prog 62 [Value.tuple #[Value.int IntKind.i64 0,Value.agg #[Value.bool false,Value.slice none 0 0,Value.slice none 0 0],Value.int IntKind.i64 0]]=[.lit (Value.tuple #[Value.int IntKind.i64 0,Value.agg #[Value.bool false,Value.slice none 0 0,Value.slice none 0 0],Value.int IntKind.i64 0])]:=by kernel_rfl
@[simp] theorem z62:zeroOf Tryz.prog 62=some [Value.tuple #[Value.int IntKind.i64 0,Value.agg #[Value.bool false,Value.slice none 0 0,Value.slice none 0 0],Value.int IntKind.i64 0]]:=by kernel_rfl
@[simp] theorem pl62:placesOf Tryz.prog 62=none:=by kernel_rfl
@[simp] theorem ty68:tyOf Tryz.prog 68=some (true,4):=by kernel_rfl
@[simp] theorem zav68:zAV Tryz.prog 68 [Value.int IntKind.i64 0,Value.bool false,Value.slice none 0 0,Value.slice none 0 0]=[.lit (Value.int IntKind.i64 0),.lit (Value.bool false),.nl 1,.nl 1]:=by kernel_rfl
@[simp] theorem z68:zeroOf Tryz.prog 68=some [Value.int IntKind.i64 0,Value.bool false,Value.slice none 0 0,Value.slice none 0 0]:=by kernel_rfl
@[simp] theorem fld68_0:fldOf Tryz.prog 68 0=some (0,false,1):=by kernel_rfl
@[simp] theorem fld68_1:fldOf Tryz.prog 68 1=some (1,true,3):=by kernel_rfl
@[simp] theorem pl68:placesOf Tryz.prog 68=some [(0,1),(1,3)]:=by kernel_rfl
@[simp] theorem ty74:tyOf Tryz.prog 74=some (true,2):=by kernel_rfl
@[simp] theorem zav74:zAV Tryz.prog 74 [Value.bool false,Value.slice none 0 0]=[.lit (Value.bool false),.nl 1]:=by kernel_rfl
@[simp] theorem z74:zeroOf Tryz.prog 74=some [Value.bool false,Value.slice none 0 0]:=by kernel_rfl
@[simp] theorem fld74_0:fldOf Tryz.prog 74 0=some (0,false,1):=by kernel_rfl
@[simp] theorem fld74_1:fldOf Tryz.prog 74 1=some (1,false,1):=by kernel_rfl
@[simp] theorem pl74:placesOf Tryz.prog 74=some [(0,1),(1,1)]:=by kernel_rfl
@[simp] theorem ty75:tyOf Tryz.prog 75=some (false,1):=by kernel_rfl
@[simp] theorem zav75:zAV Tryz.prog 75 [Value.pointer none]=[.lit (Value.pointer none)]:=by kernel_rfl
@[simp] theorem z75:zeroOf Tryz.prog 75=some [Value.pointer none]:=by kernel_rfl
@[simp] theorem pl75:placesOf Tryz.prog 75=none:=by kernel_rfl
@[simp] theorem pt75:ptT Tryz.prog 75=some 78:=by kernel_rfl
@[simp] theorem ty76:tyOf Tryz.prog 76=some (false,1):=by kernel_rfl
@[simp] theorem zav76:zAV Tryz.prog 76 [Value.map none]=[.lit (Value.map none)]:=by kernel_rfl
@[simp] theorem z76:zeroOf Tryz.prog 76=some [Value.map none]:=by kernel_rfl
@[simp] theorem pl76:placesOf Tryz.prog 76=none:=by kernel_rfl
@[simp] theorem mt76:mapT Tryz.prog 76=some 4:=by kernel_rfl
@[simp] theorem ty78:tyOf Tryz.prog 78=some (true,2):=by kernel_rfl
@[simp] theorem zav78:zAV Tryz.prog 78 [Value.slice none 0 0,Value.map none]=[.nl 4,.lit (Value.map none)]:=by kernel_rfl
@[simp] theorem z78:zeroOf Tryz.prog 78=some [Value.slice none 0 0,Value.map none]:=by kernel_rfl
@[simp] theorem fld78_0:fldOf Tryz.prog 78 0=some (0,false,1):=by kernel_rfl
@[simp] theorem fld78_1:fldOf Tryz.prog 78 1=some (1,false,1):=by kernel_rfl
@[simp] theorem pl78:placesOf Tryz.prog 78=some [(0,1),(1,1)]:=by kernel_rfl
@[simp] theorem ty91:tyOf Tryz.prog 91=some (false,1):=by kernel_rfl
@[simp] theorem zav91:zAV Tryz.prog 91 [Value.int IntKind.u64 0]=[.lit (Value.int IntKind.u64 0)]:=by kernel_rfl
@[simp] theorem z91:zeroOf Tryz.prog 91=some [Value.int IntKind.u64 0]:=by kernel_rfl
@[simp] theorem pl91:placesOf Tryz.prog 91=none:=by kernel_rfl
@[simp] theorem in91:intT Tryz.prog 91=some .u64:=by kernel_rfl
@[simp] theorem un91: Tryz.prog.underlying 91=some (.int .u64):=by kernel_rfl
@[simp] theorem ty99:tyOf Tryz.prog 99=some (false,1):=by kernel_rfl
@[simp] theorem zav99:zAV Tryz.prog 99 [Value.pointer none]=[.lit (Value.pointer none)]:=by kernel_rfl
@[simp] theorem z99:zeroOf Tryz.prog 99=some [Value.pointer none]:=by kernel_rfl
@[simp] theorem pl99:placesOf Tryz.prog 99=none:=by kernel_rfl
@[simp] theorem pt99:ptT Tryz.prog 99=some 26:=by kernel_rfl
@[simp] theorem ty112:tyOf Tryz.prog 112=some (false,1):=by kernel_rfl
@[simp] theorem zav112:zAV Tryz.prog 112 [Value.tuple #[Value.slice none 0 0,Value.slice none 0 0,Value.int IntKind.i64 0]]=[.lit (Value.tuple #[Value.slice none 0 0,Value.slice none 0 0,Value.int IntKind.i64 0])]:=by kernel_rfl
@[simp] theorem z112:zeroOf Tryz.prog 112=some [Value.tuple #[Value.slice none 0 0,Value.slice none 0 0,Value.int IntKind.i64 0]]:=by kernel_rfl
@[simp] theorem pl112:placesOf Tryz.prog 112=none:=by kernel_rfl
@[simp] theorem ty114:tyOf Tryz.prog 114=some (false,1):=by kernel_rfl
@[simp] theorem zav114:zAV Tryz.prog 114 [Value.int IntKind.u32 0]=[.lit (Value.int IntKind.u32 0)]:=by kernel_rfl
@[simp] theorem z114:zeroOf Tryz.prog 114=some [Value.int IntKind.u32 0]:=by kernel_rfl
@[simp] theorem pl114:placesOf Tryz.prog 114=none:=by kernel_rfl
@[simp] theorem in114:intT Tryz.prog 114=some .u32:=by kernel_rfl
@[simp] theorem un114: Tryz.prog.underlying 114=some (.int .u32):=by kernel_rfl
@[simp] theorem ty115:tyOf Tryz.prog 115=some (false,1):=by kernel_rfl
@[simp] theorem zav115:zAV Tryz.prog 115 [Value.nilFunc]=[.lit (Value.nilFunc)]:=by kernel_rfl
@[simp] theorem z115:zeroOf Tryz.prog 115=some [Value.nilFunc]:=by kernel_rfl
@[simp] theorem pl115:placesOf Tryz.prog 115=none:=by kernel_rfl
@[simp] theorem ty116:tyOf Tryz.prog 116=some (false,1):=by kernel_rfl
@[simp] theorem zav116:zAV Tryz.prog 116 [Value.int IntKind.u64 0]=[.lit (Value.int IntKind.u64 0)]:=by kernel_rfl
@[simp] theorem z116:zeroOf Tryz.prog 116=some [Value.int IntKind.u64 0]:=by kernel_rfl
@[simp] theorem pl116:placesOf Tryz.prog 116=none:=by kernel_rfl
@[simp] theorem in116:intT Tryz.prog 116=some .u64:=by kernel_rfl
@[simp] theorem un116: Tryz.prog.underlying 116=some (.int .u64):=by kernel_rfl
@[simp] theorem ty124:tyOf Tryz.prog 124=some (false,1):=by kernel_rfl
@[simp] theorem zav124:zAV Tryz.prog 124 [Value.tuple #[Value.agg #[Value.bool false,Value.slice none 0 0],Value.agg #[Value.bool false,Value.slice none 0 0]]]=[.lit (Value.tuple #[Value.agg #[Value.bool false,Value.slice none 0 0],Value.agg #[Value.bool false,Value.slice none 0 0]])]:=by kernel_rfl
@[simp] theorem z124:zeroOf Tryz.prog 124=some [Value.tuple #[Value.agg #[Value.bool false,Value.slice none 0 0],Value.agg #[Value.bool false,Value.slice none 0 0]]]:=by kernel_rfl
@[simp] theorem pl124:placesOf Tryz.prog 124=none:=by kernel_rfl
@[simp] theorem ty127:tyOf Tryz.prog 127=some (false,1):=by kernel_rfl
@[simp] theorem zav127:zAV Tryz.prog 127 [Value.tuple #[Value.agg #[Value.slice none 0 0,Value.bool false,Value.slice none 0 0,Value.slice none 0 0],Value.int IntKind.i64 0]]=[.lit (Value.tuple #[Value.agg #[Value.slice none 0 0,Value.bool false,Value.slice none 0 0,Value.slice none 0 0],Value.int IntKind.i64 0])]:=by kernel_rfl
@[simp] theorem z127:zeroOf Tryz.prog 127=some [Value.tuple #[Value.agg #[Value.slice none 0 0,Value.bool false,Value.slice none 0 0,Value.slice none 0 0],Value.int IntKind.i64 0]]:=by kernel_rfl
@[simp] theorem pl127:placesOf Tryz.prog 127=none:=by kernel_rfl
@[simp] theorem ty132:tyOf Tryz.prog 132=some (false,1):=by kernel_rfl
@[simp] theorem zav132:zAV Tryz.prog 132 [Value.tuple #[Value.slice none 0 0,Value.int IntKind.i64 0]]=[.lit (Value.tuple #[Value.slice none 0 0,Value.int IntKind.i64 0])]:=by kernel_rfl
@[simp] theorem z132:zeroOf Tryz.prog 132=some [Value.tuple #[Value.slice none 0 0,Value.int IntKind.i64 0]]:=by kernel_rfl
@[simp] theorem pl132:placesOf Tryz.prog 132=none:=by kernel_rfl
@[simp] theorem ty134:tyOf Tryz.prog 134=some (false,1):=by kernel_rfl
@[simp] theorem zav134:zAV Tryz.prog 134 [Value.pointer none]=[.lit (Value.pointer none)]:=by kernel_rfl
@[simp] theorem z134:zeroOf Tryz.prog 134=some [Value.pointer none]:=by kernel_rfl
@[simp] theorem pl134:placesOf Tryz.prog 134=none:=by kernel_rfl
@[simp] theorem pt134:ptT Tryz.prog 134=some 137:=by kernel_rfl
@[simp] theorem ty135:tyOf Tryz.prog 135=some (false,1):=by kernel_rfl
@[simp] theorem zav135:zAV Tryz.prog 135 [Value.slice none 0 0]=[.nl 1]:=by kernel_rfl
@[simp] theorem z135:zeroOf Tryz.prog 135=some [Value.slice none 0 0]:=by kernel_rfl
@[simp] theorem pl135:placesOf Tryz.prog 135=none:=by kernel_rfl
@[simp] theorem el135:elOf Tryz.prog 135=some (5,false,1,1,[Value.int IntKind.u8 0]):=by kernel_rfl
@[simp] theorem by135:bytT Tryz.prog 135=some 5:=by kernel_rfl
@[simp] theorem ty137:tyOf Tryz.prog 137=some (true,2):=by kernel_rfl
@[simp] theorem zav137:zAV Tryz.prog 137 [Value.pointer none,Value.slice none 0 0]=[.lit (Value.pointer none),.nl 1]:=by kernel_rfl
@[simp] theorem z137:zeroOf Tryz.prog 137=some [Value.pointer none,Value.slice none 0 0]:=by kernel_rfl
@[simp] theorem fld137_0:fldOf Tryz.prog 137 0=some (0,false,1):=by kernel_rfl
@[simp] theorem fld137_1:fldOf Tryz.prog 137 1=some (1,false,1):=by kernel_rfl
@[simp] theorem pl137:placesOf Tryz.prog 137=some [(0,1),(1,1)]:=by kernel_rfl
@[simp] theorem ty140:tyOf Tryz.prog 140=some (false,1):=by kernel_rfl
@[simp] theorem pl140:placesOf Tryz.prog 140=none:=by kernel_rfl
@[simp] theorem if140:ifT Tryz.prog 140=true:=by kernel_rfl
@[simp] theorem ty141:tyOf Tryz.prog 141=some (false,1):=by kernel_rfl
@[simp] theorem zav141:zAV Tryz.prog 141 [Value.tuple #[Value.int IntKind.i64 0,Value.nilIface]]=[.lit (Value.tuple #[Value.int IntKind.i64 0,Value.nilIface])]:=by kernel_rfl
@[simp] theorem z141:zeroOf Tryz.prog 141=some [Value.tuple #[Value.int IntKind.i64 0,Value.nilIface]]:=by kernel_rfl
@[simp] theorem pl141:placesOf Tryz.prog 141=none:=by kernel_rfl
@[simp] theorem ty143:tyOf Tryz.prog 143=some (false,1):=by kernel_rfl
@[simp] theorem zav143:zAV Tryz.prog 143 [Value.nilFunc]=[.lit (Value.nilFunc)]:=by kernel_rfl
@[simp] theorem z143:zeroOf Tryz.prog 143=some [Value.nilFunc]:=by kernel_rfl
@[simp] theorem pl143:placesOf Tryz.prog 143=none:=by kernel_rfl
@[simp] theorem ty147:tyOf Tryz.prog 147=some (false,1):=by kernel_rfl
@[simp] theorem zav147:zAV Tryz.prog 147 [Value.tuple #[Value.int IntKind.u64 0,Value.bool false]]=[.lit (Value.tuple #[Value.int IntKind.u64 0,Value.bool false])]:=by kernel_rfl
@[simp] theorem z147:zeroOf Tryz.prog 147=some [Value.tuple #[Value.int IntKind.u64 0,Value.bool false]]:=by kernel_rfl
@[simp] theorem pl147:placesOf Tryz.prog 147=none:=by kernel_rfl
@[simp] theorem ty153:tyOf Tryz.prog 153=some (false,1):=by kernel_rfl
@[simp] theorem zav153:zAV Tryz.prog 153 [Value.tuple #[Value.slice none 0 0,Value.slice none 0 0]]=[.lit (Value.tuple #[Value.slice none 0 0,Value.slice none 0 0])]:=by kernel_rfl
@[simp] theorem z153:zeroOf Tryz.prog 153=some [Value.tuple #[Value.slice none 0 0,Value.slice none 0 0]]:=by kernel_rfl
@[simp] theorem pl153:placesOf Tryz.prog 153=none:=by kernel_rfl
@[simp] theorem ty159:tyOf Tryz.prog 159=some (false,1):=by kernel_rfl
@[simp] theorem zav159:zAV Tryz.prog 159 [Value.pointer none]=[.lit (Value.pointer none)]:=by kernel_rfl
@[simp] theorem z159:zeroOf Tryz.prog 159=some [Value.pointer none]:=by kernel_rfl
@[simp] theorem pl159:placesOf Tryz.prog 159=none:=by kernel_rfl
@[simp] theorem pt159:ptT Tryz.prog 159=some 5:=by kernel_rfl
@[simp] theorem ty160:tyOf Tryz.prog 160=some (false,1):=by kernel_rfl
@[simp] theorem zav160:zAV Tryz.prog 160 [Value.pointer none]=[.lit (Value.pointer none)]:=by kernel_rfl
@[simp] theorem z160:zeroOf Tryz.prog 160=some [Value.pointer none]:=by kernel_rfl
@[simp] theorem pl160:placesOf Tryz.prog 160=none:=by kernel_rfl
@[simp] theorem ty163:tyOf Tryz.prog 163=some (false,1):=by kernel_rfl
@[simp] theorem zav163:zAV Tryz.prog 163 [Value.slice none 0 0]=[.nl 1]:=by kernel_rfl
@[simp] theorem z163:zeroOf Tryz.prog 163=some [Value.slice none 0 0]:=by kernel_rfl
@[simp] theorem pl163:placesOf Tryz.prog 163=none:=by kernel_rfl
@[simp] theorem el163:elOf Tryz.prog 163=some (9,false,1,16,[Value.string {data:=#[]}]):=by kernel_rfl
@[simp] theorem ty168:tyOf Tryz.prog 168=some (true,24):=by kernel_rfl
@[simp] theorem zav168:zAV Tryz.prog 168 [Value.int IntKind.u8 0,Value.int IntKind.u8 0,Value.int IntKind.u8 0,Value.int IntKind.u8 0,Value.int IntKind.u8 0,Value.int IntKind.u8 0,Value.int IntKind.u8 0,Value.int IntKind.u8 0,Value.int IntKind.u8 0,Value.int IntKind.u8 0,Value.int IntKind.u8 0,Value.int IntKind.u8 0,Value.int IntKind.u8 0,Value.int IntKind.u8 0,Value.int IntKind.u8 0,Value.int IntKind.u8 0,Value.int IntKind.u8 0,Value.int IntKind.u8 0,Value.int IntKind.u8 0,Value.int IntKind.u8 0,Value.int IntKind.u8 0,Value.int IntKind.u8 0,Value.int IntKind.u8 0,Value.int IntKind.u8 0]=[.lit (Value.int IntKind.u8 0),.lit (Value.int IntKind.u8 0),.lit (Value.int IntKind.u8 0),.lit (Value.int IntKind.u8 0),.lit (Value.int IntKind.u8 0),.lit (Value.int IntKind.u8 0),.lit (Value.int IntKind.u8 0),.lit (Value.int IntKind.u8 0),.lit (Value.int IntKind.u8 0),.lit (Value.int IntKind.u8 0),.lit (Value.int IntKind.u8 0),.lit (Value.int IntKind.u8 0),.lit (Value.int IntKind.u8 0),.lit (Value.int IntKind.u8 0),.lit (Value.int IntKind.u8 0),.lit (Value.int IntKind.u8 0),.lit (Value.int IntKind.u8 0),.lit (Value.int IntKind.u8 0),.lit (Value.int IntKind.u8 0),.lit (Value.int IntKind.u8 0),.lit (Value.int IntKind.u8 0),.lit (Value.int IntKind.u8 0),.lit (Value.int IntKind.u8 0),.lit (Value.int IntKind.u8 0)]:=by kernel_rfl
@[simp] theorem z168:zeroOf Tryz.prog 168=some [Value.int IntKind.u8 0,Value.int IntKind.u8 0,Value.int IntKind.u8 0,Value.int IntKind.u8 0,Value.int IntKind.u8 0,Value.int IntKind.u8 0,Value.int IntKind.u8 0,Value.int IntKind.u8 0,Value.int IntKind.u8 0,Value.int IntKind.u8 0,Value.int IntKind.u8 0,Value.int IntKind.u8 0,Value.int IntKind.u8 0,Value.int IntKind.u8 0,Value.int IntKind.u8 0,Value.int IntKind.u8 0,Value.int IntKind.u8 0,Value.int IntKind.u8 0,Value.int IntKind.u8 0,Value.int IntKind.u8 0,Value.int IntKind.u8 0,Value.int IntKind.u8 0,Value.int IntKind.u8 0,Value.int IntKind.u8 0]:=by kernel_rfl
@[simp] theorem pl168:placesOf Tryz.prog 168=none:=by kernel_rfl
@[simp] theorem ar168:arOf Tryz.prog 168=some (24,false,1):=by kernel_rfl
@[simp] theorem nel168:elOf Tryz.prog 168=none:=by kernel_rfl
@[simp] theorem ty170:tyOf Tryz.prog 170=some (false,1):=by kernel_rfl
@[simp] theorem zav170:zAV Tryz.prog 170 [Value.tuple #[Value.slice none 0 0,Value.string {data:=#[]}]]=[.lit (Value.tuple #[Value.slice none 0 0,Value.string {data:=#[]}])]:=by kernel_rfl
@[simp] theorem z170:zeroOf Tryz.prog 170=some [Value.tuple #[Value.slice none 0 0,Value.string {data:=#[]}]]:=by kernel_rfl
@[simp] theorem pl170:placesOf Tryz.prog 170=none:=by kernel_rfl
@[simp] theorem ty172:tyOf Tryz.prog 172=some (false,1):=by kernel_rfl
@[simp] theorem zav172:zAV Tryz.prog 172 [Value.tuple #[Value.int IntKind.u64 0,Value.int IntKind.u64 0]]=[.lit (Value.tuple #[Value.int IntKind.u64 0,Value.int IntKind.u64 0])]:=by kernel_rfl
@[simp] theorem z172:zeroOf Tryz.prog 172=some [Value.tuple #[Value.int IntKind.u64 0,Value.int IntKind.u64 0]]:=by kernel_rfl
@[simp] theorem pl172:placesOf Tryz.prog 172=none:=by kernel_rfl
@[simp] theorem ty178:tyOf Tryz.prog 178=some (true,20):=by kernel_rfl
@[simp] theorem zav178:zAV Tryz.prog 178 [Value.int IntKind.u64 0,Value.int IntKind.u64 0,Value.int IntKind.u64 0,Value.int IntKind.u64 0,Value.int IntKind.u64 0,Value.int IntKind.u64 0,Value.int IntKind.u64 0,Value.int IntKind.u64 0,Value.int IntKind.u64 0,Value.int IntKind.u64 0,Value.int IntKind.u64 0,Value.int IntKind.u64 0,Value.int IntKind.u64 0,Value.int IntKind.u64 0,Value.int IntKind.u64 0,Value.int IntKind.u64 0,Value.int IntKind.u64 0,Value.int IntKind.u64 0,Value.int IntKind.u64 0,Value.int IntKind.u64 0]=[.lit (Value.int IntKind.u64 0),.lit (Value.int IntKind.u64 0),.lit (Value.int IntKind.u64 0),.lit (Value.int IntKind.u64 0),.lit (Value.int IntKind.u64 0),.lit (Value.int IntKind.u64 0),.lit (Value.int IntKind.u64 0),.lit (Value.int IntKind.u64 0),.lit (Value.int IntKind.u64 0),.lit (Value.int IntKind.u64 0),.lit (Value.int IntKind.u64 0),.lit (Value.int IntKind.u64 0),.lit (Value.int IntKind.u64 0),.lit (Value.int IntKind.u64 0),.lit (Value.int IntKind.u64 0),.lit (Value.int IntKind.u64 0),.lit (Value.int IntKind.u64 0),.lit (Value.int IntKind.u64 0),.lit (Value.int IntKind.u64 0),.lit (Value.int IntKind.u64 0)]:=by kernel_rfl
@[simp] theorem z178:zeroOf Tryz.prog 178=some [Value.int IntKind.u64 0,Value.int IntKind.u64 0,Value.int IntKind.u64 0,Value.int IntKind.u64 0,Value.int IntKind.u64 0,Value.int IntKind.u64 0,Value.int IntKind.u64 0,Value.int IntKind.u64 0,Value.int IntKind.u64 0,Value.int IntKind.u64 0,Value.int IntKind.u64 0,Value.int IntKind.u64 0,Value.int IntKind.u64 0,Value.int IntKind.u64 0,Value.int IntKind.u64 0,Value.int IntKind.u64 0,Value.int IntKind.u64 0,Value.int IntKind.u64 0,Value.int IntKind.u64 0,Value.int IntKind.u64 0]:=by kernel_rfl
@[simp] theorem pl178:placesOf Tryz.prog 178=none:=by kernel_rfl
@[simp] theorem ar178:arOf Tryz.prog 178=some (20,false,1):=by kernel_rfl
@[simp] theorem nel178:elOf Tryz.prog 178=none:=by kernel_rfl
@[simp] theorem ty179:tyOf Tryz.prog 179=some (true,65):=by kernel_rfl
@[simp] theorem pl179:placesOf Tryz.prog 179=none:=by kernel_rfl
@[simp] theorem ar179:arOf Tryz.prog 179=some (65,false,1):=by kernel_rfl
@[simp] theorem nel179:elOf Tryz.prog 179=none:=by kernel_rfl
@[simp] theorem ty182:tyOf Tryz.prog 182=some (false,1):=by kernel_rfl
@[simp] theorem zav182:zAV Tryz.prog 182 [Value.tuple #[Value.int IntKind.u32 0,Value.int IntKind.u32 0]]=[.lit (Value.tuple #[Value.int IntKind.u32 0,Value.int IntKind.u32 0])]:=by kernel_rfl
@[simp] theorem z182:zeroOf Tryz.prog 182=some [Value.tuple #[Value.int IntKind.u32 0,Value.int IntKind.u32 0]]:=by kernel_rfl
@[simp] theorem pl182:placesOf Tryz.prog 182=none:=by kernel_rfl
@[simp] theorem ty184:tyOf Tryz.prog 184=some (false,1):=by kernel_rfl
@[simp] theorem zav184:zAV Tryz.prog 184 [Value.tuple #[Value.int IntKind.u64 0,Value.int IntKind.u64 0]]=[.lit (Value.tuple #[Value.int IntKind.u64 0,Value.int IntKind.u64 0])]:=by kernel_rfl
@[simp] theorem z184:zeroOf Tryz.prog 184=some [Value.tuple #[Value.int IntKind.u64 0,Value.int IntKind.u64 0]]:=by kernel_rfl
@[simp] theorem pl184:placesOf Tryz.prog 184=none:=by kernel_rfl
@[simp] theorem ty187:tyOf Tryz.prog 187=some (true,32):=by kernel_rfl
@[simp] theorem zav187:zAV Tryz.prog 187 [Value.int IntKind.u8 0,Value.int IntKind.u8 0,Value.int IntKind.u8 0,Value.int IntKind.u8 0,Value.int IntKind.u8 0,Value.int IntKind.u8 0,Value.int IntKind.u8 0,Value.int IntKind.u8 0,Value.int IntKind.u8 0,Value.int IntKind.u8 0,Value.int IntKind.u8 0,Value.int IntKind.u8 0,Value.int IntKind.u8 0,Value.int IntKind.u8 0,Value.int IntKind.u8 0,Value.int IntKind.u8 0,Value.int IntKind.u8 0,Value.int IntKind.u8 0,Value.int IntKind.u8 0,Value.int IntKind.u8 0,Value.int IntKind.u8 0,Value.int IntKind.u8 0,Value.int IntKind.u8 0,Value.int IntKind.u8 0,Value.int IntKind.u8 0,Value.int IntKind.u8 0,Value.int IntKind.u8 0,Value.int IntKind.u8 0,Value.int IntKind.u8 0,Value.int IntKind.u8 0,Value.int IntKind.u8 0,Value.int IntKind.u8 0]=[.lit (Value.int IntKind.u8 0),.lit (Value.int IntKind.u8 0),.lit (Value.int IntKind.u8 0),.lit (Value.int IntKind.u8 0),.lit (Value.int IntKind.u8 0),.lit (Value.int IntKind.u8 0),.lit (Value.int IntKind.u8 0),.lit (Value.int IntKind.u8 0),.lit (Value.int IntKind.u8 0),.lit (Value.int IntKind.u8 0),.lit (Value.int IntKind.u8 0),.lit (Value.int IntKind.u8 0),.lit (Value.int IntKind.u8 0),.lit (Value.int IntKind.u8 0),.lit (Value.int IntKind.u8 0),.lit (Value.int IntKind.u8 0),.lit (Value.int IntKind.u8 0),.lit (Value.int IntKind.u8 0),.lit (Value.int IntKind.u8 0),.lit (Value.int IntKind.u8 0),.lit (Value.int IntKind.u8 0),.lit (Value.int IntKind.u8 0),.lit (Value.int IntKind.u8 0),.lit (Value.int IntKind.u8 0),.lit (Value.int IntKind.u8 0),.lit (Value.int IntKind.u8 0),.lit (Value.int IntKind.u8 0),.lit (Value.int IntKind.u8 0),.lit (Value.int IntKind.u8 0),.lit (Value.int IntKind.u8 0),.lit (Value.int IntKind.u8 0),.lit (Value.int IntKind.u8 0)]:=by kernel_rfl
@[simp] theorem z187:zeroOf Tryz.prog 187=some [Value.int IntKind.u8 0,Value.int IntKind.u8 0,Value.int IntKind.u8 0,Value.int IntKind.u8 0,Value.int IntKind.u8 0,Value.int IntKind.u8 0,Value.int IntKind.u8 0,Value.int IntKind.u8 0,Value.int IntKind.u8 0,Value.int IntKind.u8 0,Value.int IntKind.u8 0,Value.int IntKind.u8 0,Value.int IntKind.u8 0,Value.int IntKind.u8 0,Value.int IntKind.u8 0,Value.int IntKind.u8 0,Value.int IntKind.u8 0,Value.int IntKind.u8 0,Value.int IntKind.u8 0,Value.int IntKind.u8 0,Value.int IntKind.u8 0,Value.int IntKind.u8 0,Value.int IntKind.u8 0,Value.int IntKind.u8 0,Value.int IntKind.u8 0,Value.int IntKind.u8 0,Value.int IntKind.u8 0,Value.int IntKind.u8 0,Value.int IntKind.u8 0,Value.int IntKind.u8 0,Value.int IntKind.u8 0,Value.int IntKind.u8 0]:=by kernel_rfl
@[simp] theorem pl187:placesOf Tryz.prog 187=none:=by kernel_rfl
@[simp] theorem ar187:arOf Tryz.prog 187=some (32,false,1):=by kernel_rfl
@[simp] theorem nel187:elOf Tryz.prog 187=none:=by kernel_rfl
@[simp] theorem ty188:tyOf Tryz.prog 188=some (true,64):=by kernel_rfl
@[simp] theorem pl188:placesOf Tryz.prog 188=none:=by kernel_rfl
@[simp] theorem ar188:arOf Tryz.prog 188=some (64,false,1):=by kernel_rfl
@[simp] theorem nel188:elOf Tryz.prog 188=none:=by kernel_rfl
@[simp] theorem zv4:zeroV Tryz.prog 4=some (Value.bool false):=by kernel_rfl
end
end Go.Proofs.YtdaonnnlgfhlaaaGreatDoor
