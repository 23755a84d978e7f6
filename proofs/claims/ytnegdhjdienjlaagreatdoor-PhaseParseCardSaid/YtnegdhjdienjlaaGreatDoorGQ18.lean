import Derived.Test.YtnegdhjdienjlaaGreatDoorGQ17
import Derived.Test.YtnegdhjdienjlaaGreatDoorProg
import Derived.KernelRfl
set_option linter.all false
namespace Go.Proofs.YtnegdhjdienjlaaGreatDoor
section
open Go.RowKit
@[simp] theorem ty0:tyOf Tryz.prog 0=some (false,1):=by kernel_rfl
@[simp] theorem zav0:zAV Tryz.prog 0 [Value.tuple #[]]=[.lit (Value.tuple #[])]:=by kernel_rfl
@[simp] theorem z0:zeroOf Tryz.prog 0=some [Value.tuple #[]]:=by kernel_rfl
@[simp] theorem pl0:placesOf Tryz.prog 0=none:=by kernel_rfl
@[simp] theorem ty1:tyOf Tryz.prog 1=some (false,1):=by kernel_rfl
@[simp] theorem zav1:zAV Tryz.prog 1 [Value.nilFunc]=[.lit (Value.nilFunc)]:=by kernel_rfl
@[simp] theorem z1:zeroOf Tryz.prog 1=some [Value.nilFunc]:=by kernel_rfl
@[simp] theorem pl1:placesOf Tryz.prog 1=none:=by kernel_rfl
@[simp] theorem ty2:tyOf Tryz.prog 2=some (false,1):=by kernel_rfl
@[simp] theorem zav2:zAV Tryz.prog 2 [Value.int IntKind.i64 0]=[.lit (Value.int IntKind.i64 0)]:=by kernel_rfl
@[simp] theorem z2:zeroOf Tryz.prog 2=some [Value.int IntKind.i64 0]:=by kernel_rfl
@[simp] theorem pl2:placesOf Tryz.prog 2=none:=by kernel_rfl
@[simp] theorem in2:intT Tryz.prog 2=some .i64:=by kernel_rfl
@[simp] theorem un2: Tryz.prog.underlying 2=some (.int .i64):=by kernel_rfl
@[simp] theorem ty3:tyOf Tryz.prog 3=some (false,1):=by kernel_rfl
@[simp] theorem zav3:zAV Tryz.prog 3 [Value.int IntKind.i64 0]=[.lit (Value.int IntKind.i64 0)]:=by kernel_rfl
@[simp] theorem z3:zeroOf Tryz.prog 3=some [Value.int IntKind.i64 0]:=by kernel_rfl
@[simp] theorem pl3:placesOf Tryz.prog 3=none:=by kernel_rfl
@[simp] theorem in3:intT Tryz.prog 3=some .i64:=by kernel_rfl
@[simp] theorem un3: Tryz.prog.underlying 3=some (.int .i64):=by kernel_rfl
@[simp] theorem ty4:tyOf Tryz.prog 4=some (false,1):=by kernel_rfl
@[simp] theorem zav4:zAV Tryz.prog 4 [Value.bool false]=[.lit (Value.bool false)]:=by kernel_rfl
@[simp] theorem z4:zeroOf Tryz.prog 4=some [Value.bool false]:=by kernel_rfl
@[simp] theorem pl4:placesOf Tryz.prog 4=none:=by kernel_rfl
@[simp] theorem bo4:boolT Tryz.prog 4=true:=by kernel_rfl
@[simp] theorem ty5:tyOf Tryz.prog 5=some (false,1):=by kernel_rfl
@[simp] theorem zav5:zAV Tryz.prog 5 [Value.int IntKind.u8 0]=[.lit (Value.int IntKind.u8 0)]:=by kernel_rfl
@[simp] theorem z5:zeroOf Tryz.prog 5=some [Value.int IntKind.u8 0]:=by kernel_rfl
@[simp] theorem pl5:placesOf Tryz.prog 5=none:=by kernel_rfl
@[simp] theorem in5:intT Tryz.prog 5=some .u8:=by kernel_rfl
@[simp] theorem un5: Tryz.prog.underlying 5=some (.int .u8):=by kernel_rfl
@[simp] theorem ty6:tyOf Tryz.prog 6=some (false,1):=by kernel_rfl
@[simp] theorem zav6:zAV Tryz.prog 6 [Value.int IntKind.u8 0]=[.lit (Value.int IntKind.u8 0)]:=by kernel_rfl
@[simp] theorem z6:zeroOf Tryz.prog 6=some [Value.int IntKind.u8 0]:=by kernel_rfl
@[simp] theorem pl6:placesOf Tryz.prog 6=none:=by kernel_rfl
@[simp] theorem in6:intT Tryz.prog 6=some .u8:=by kernel_rfl
@[simp] theorem un6: Tryz.prog.underlying 6=some (.int .u8):=by kernel_rfl
@[simp] theorem ty7:tyOf Tryz.prog 7=some (true,4):=by kernel_rfl
@[simp] theorem zav7:zAV Tryz.prog 7 [Value.int IntKind.i64 0,Value.int IntKind.i64 0,Value.bool false,Value.int IntKind.u8 0]=[.lit (Value.int IntKind.i64 0),.lit (Value.int IntKind.i64 0),.lit (Value.bool false),.lit (Value.int IntKind.u8 0)]:=by kernel_rfl
@[simp] theorem z7:zeroOf Tryz.prog 7=some [Value.int IntKind.i64 0,Value.int IntKind.i64 0,Value.bool false,Value.int IntKind.u8 0]:=by kernel_rfl
@[simp] theorem fld7_0:fldOf Tryz.prog 7 0=some (0,false,1):=by kernel_rfl
@[simp] theorem fld7_1:fldOf Tryz.prog 7 1=some (1,false,1):=by kernel_rfl
@[simp] theorem fld7_2:fldOf Tryz.prog 7 2=some (2,false,1):=by kernel_rfl
@[simp] theorem fld7_3:fldOf Tryz.prog 7 3=some (3,false,1):=by kernel_rfl
@[simp] theorem pl7:placesOf Tryz.prog 7=some [(0,1),(1,1),(2,1),(3,1)]:=by kernel_rfl
@[simp] theorem ty8:tyOf Tryz.prog 8=some (true,4):=by kernel_rfl
@[simp] theorem zav8:zAV Tryz.prog 8 [Value.int IntKind.i64 0,Value.int IntKind.i64 0,Value.bool false,Value.int IntKind.u8 0]=[.lit (Value.int IntKind.i64 0),.lit (Value.int IntKind.i64 0),.lit (Value.bool false),.lit (Value.int IntKind.u8 0)]:=by kernel_rfl
@[simp] theorem z8:zeroOf Tryz.prog 8=some [Value.int IntKind.i64 0,Value.int IntKind.i64 0,Value.bool false,Value.int IntKind.u8 0]:=by kernel_rfl
@[simp] theorem fld8_0:fldOf Tryz.prog 8 0=some (0,false,1):=by kernel_rfl
@[simp] theorem fld8_1:fldOf Tryz.prog 8 1=some (1,false,1):=by kernel_rfl
@[simp] theorem fld8_2:fldOf Tryz.prog 8 2=some (2,false,1):=by kernel_rfl
@[simp] theorem fld8_3:fldOf Tryz.prog 8 3=some (3,false,1):=by kernel_rfl
@[simp] theorem pl8:placesOf Tryz.prog 8=some [(0,1),(1,1),(2,1),(3,1)]:=by kernel_rfl
@[simp] theorem ty9:tyOf Tryz.prog 9=some (false,1):=by kernel_rfl
@[simp] theorem zav9:zAV Tryz.prog 9 [Value.string {data:=#[]}]=[.lit (Value.string {data:=#[]})]:=by kernel_rfl
@[simp] theorem z9:zeroOf Tryz.prog 9=some [Value.string {data:=#[]}]:=by kernel_rfl
@[simp] theorem pl9:placesOf Tryz.prog 9=none:=by kernel_rfl
@[simp] theorem st9:strT Tryz.prog 9=true:=by kernel_rfl
@[simp] theorem ty20:tyOf Tryz.prog 20=some (false,1):=by kernel_rfl
@[simp] theorem pl20:placesOf Tryz.prog 20=none:=by kernel_rfl
@[simp] theorem if20:ifT Tryz.prog 20=true:=by kernel_rfl
@[simp] theorem ty21:tyOf Tryz.prog 21=some (false,1):=by kernel_rfl
@[simp] theorem zav21:zAV Tryz.prog 21 [Value.int IntKind.i32 0]=[.lit (Value.int IntKind.i32 0)]:=by kernel_rfl
@[simp] theorem z21:zeroOf Tryz.prog 21=some [Value.int IntKind.i32 0]:=by kernel_rfl
@[simp] theorem pl21:placesOf Tryz.prog 21=none:=by kernel_rfl
@[simp] theorem in21:intT Tryz.prog 21=some .i32:=by kernel_rfl
@[simp] theorem un21: Tryz.prog.underlying 21=some (.int .i32):=by kernel_rfl
@[simp] theorem ty22:tyOf Tryz.prog 22=some (false,1):=by kernel_rfl
@[simp] theorem zav22:zAV Tryz.prog 22 [Value.slice none 0 0]=[.nl 1]:=by kernel_rfl
@[simp] theorem z22:zeroOf Tryz.prog 22=some [Value.slice none 0 0]:=by kernel_rfl
@[simp] theorem pl22:placesOf Tryz.prog 22=none:=by kernel_rfl
@[simp] theorem el22:elOf Tryz.prog 22=some (149,false,1,4,[Value.int IntKind.u32 0]):=by kernel_rfl
@[simp] theorem ty23:tyOf Tryz.prog 23=some (false,1):=by kernel_rfl
@[simp] theorem zav23:zAV Tryz.prog 23 [Value.slice none 0 0]=[.nl 1]:=by kernel_rfl
@[simp] theorem z23:zeroOf Tryz.prog 23=some [Value.slice none 0 0]:=by kernel_rfl
@[simp] theorem pl23:placesOf Tryz.prog 23=none:=by kernel_rfl
@[simp] theorem el23:elOf Tryz.prog 23=some (149,false,1,4,[Value.int IntKind.u32 0]):=by kernel_rfl
@[simp] theorem ty25:tyOf Tryz.prog 25=some (true,3):=by kernel_rfl
@[simp] theorem zav25:zAV Tryz.prog 25 [Value.bool false,Value.slice none 0 0,Value.slice none 0 0]=[.lit (Value.bool false),.nl 1,.nl 1]:=by kernel_rfl
@[simp] theorem z25:zeroOf Tryz.prog 25=some [Value.bool false,Value.slice none 0 0,Value.slice none 0 0]:=by kernel_rfl
@[simp] theorem fld25_0:fldOf Tryz.prog 25 0=some (0,false,1):=by kernel_rfl
@[simp] theorem fld25_1:fldOf Tryz.prog 25 1=some (1,false,1):=by kernel_rfl
@[simp] theorem fld25_2:fldOf Tryz.prog 25 2=some (2,false,1):=by kernel_rfl
@[simp] theorem pl25:placesOf Tryz.prog 25=some [(0,1),(1,1),(2,1)]:=by kernel_rfl
@[simp] theorem ty27:tyOf Tryz.prog 27=some (true,5):=by kernel_rfl
@[simp] theorem zav27:zAV Tryz.prog 27 [Value.int IntKind.i64 0,Value.int IntKind.i64 0,Value.bool false,Value.slice none 0 0,Value.slice none 0 0]=[.lit (Value.int IntKind.i64 0),.lit (Value.int IntKind.i64 0),.lit (Value.bool false),.nl 1,.nl 1]:=by kernel_rfl
@[simp] theorem z27:zeroOf Tryz.prog 27=some [Value.int IntKind.i64 0,Value.int IntKind.i64 0,Value.bool false,Value.slice none 0 0,Value.slice none 0 0]:=by kernel_rfl
@[simp] theorem fld27_0:fldOf Tryz.prog 27 0=some (0,false,1):=by kernel_rfl
@[simp] theorem fld27_1:fldOf Tryz.prog 27 1=some (1,false,1):=by kernel_rfl
@[simp] theorem fld27_2:fldOf Tryz.prog 27 2=some (2,true,3):=by kernel_rfl
@[simp] theorem pl27:placesOf Tryz.prog 27=some [(0,1),(1,1),(2,3)]:=by kernel_rfl
@[simp] theorem ty31:tyOf Tryz.prog 31=some (false,1):=by kernel_rfl
@[simp] theorem zav31:zAV Tryz.prog 31 [Value.int IntKind.i64 0]=[.lit (Value.int IntKind.i64 0)]:=by kernel_rfl
@[simp] theorem z31:zeroOf Tryz.prog 31=some [Value.int IntKind.i64 0]:=by kernel_rfl
@[simp] theorem pl31:placesOf Tryz.prog 31=none:=by kernel_rfl
@[simp] theorem in31:intT Tryz.prog 31=some .i64:=by kernel_rfl
@[simp] theorem un31: Tryz.prog.underlying 31=some (.int .i64):=by kernel_rfl
@[simp] theorem ty32:tyOf Tryz.prog 32=some (false,1):=by kernel_rfl
@[simp] theorem zav32:zAV Tryz.prog 32 [Value.tuple #[Value.agg #[Value.int IntKind.i64 0,Value.int IntKind.i64 0,Value.bool false,Value.slice none 0 0,Value.slice none 0 0],Value.int IntKind.i64 0]]=[.lit (Value.tuple #[Value.agg #[Value.int IntKind.i64 0,Value.int IntKind.i64 0,Value.bool false,Value.slice none 0 0,Value.slice none 0 0],Value.int IntKind.i64 0])]:=by kernel_rfl
@[simp] theorem z32:zeroOf Tryz.prog 32=some [Value.tuple #[Value.agg #[Value.int IntKind.i64 0,Value.int IntKind.i64 0,Value.bool false,Value.slice none 0 0,Value.slice none 0 0],Value.int IntKind.i64 0]]:=by kernel_rfl
@[simp] theorem pl32:placesOf Tryz.prog 32=none:=by kernel_rfl
@[simp] theorem ty34:tyOf Tryz.prog 34=some (false,1):=by kernel_rfl
@[simp] theorem zav34:zAV Tryz.prog 34 [Value.nilFunc]=[.lit (Value.nilFunc)]:=by kernel_rfl
@[simp] theorem z34:zeroOf Tryz.prog 34=some [Value.nilFunc]:=by kernel_rfl
@[simp] theorem pl34:placesOf Tryz.prog 34=none:=by kernel_rfl
@[simp] theorem ty47:tyOf Tryz.prog 47=some (false,1):=by kernel_rfl
@[simp] theorem zav47:zAV Tryz.prog 47 [Value.tuple #[Value.agg #[Value.bool false,Value.slice none 0 0,Value.slice none 0 0],Value.int IntKind.i64 0]]=[.lit (Value.tuple #[Value.agg #[Value.bool false,Value.slice none 0 0,Value.slice none 0 0],Value.int IntKind.i64 0])]:=by kernel_rfl
@[simp] theorem z47:zeroOf Tryz.prog 47=some [Value.tuple #[Value.agg #[Value.bool false,Value.slice none 0 0,Value.slice none 0 0],Value.int IntKind.i64 0]]:=by kernel_rfl
@[simp] theorem pl47:placesOf Tryz.prog 47=none:=by kernel_rfl
@[simp] theorem ty50:tyOf Tryz.prog 50=some (false,1):=by kernel_rfl
@[simp] theorem zav50:zAV Tryz.prog 50 [Value.slice none 0 0]=[.nl 5]:=by kernel_rfl
@[simp] theorem z50:zeroOf Tryz.prog 50=some [Value.slice none 0 0]:=by kernel_rfl
@[simp] theorem pl50:placesOf Tryz.prog 50=none:=by kernel_rfl
@[simp] theorem el50:elOf Tryz.prog 50=some (27,true,5,72,[Value.int IntKind.i64 0,Value.int IntKind.i64 0,Value.bool false,Value.slice none 0 0,Value.slice none 0 0]):=by kernel_rfl
@[simp] theorem ty51:tyOf Tryz.prog 51=some (false,1):=by kernel_rfl
@[simp] theorem zav51:zAV Tryz.prog 51 [Value.slice none 0 0]=[.nl 1]:=by kernel_rfl
@[simp] theorem z51:zeroOf Tryz.prog 51=some [Value.slice none 0 0]:=by kernel_rfl
@[simp] theorem pl51:placesOf Tryz.prog 51=none:=by kernel_rfl
@[simp] theorem el51:elOf Tryz.prog 51=some (3,false,1,8,[Value.int IntKind.i64 0]):=by kernel_rfl
@[simp] theorem ty52:tyOf Tryz.prog 52=some (false,1):=by kernel_rfl
@[simp] theorem zav52:zAV Tryz.prog 52 [Value.tuple #[Value.slice none 0 0,Value.int IntKind.i64 0]]=[.lit (Value.tuple #[Value.slice none 0 0,Value.int IntKind.i64 0])]:=by kernel_rfl
@[simp] theorem z52:zeroOf Tryz.prog 52=some [Value.tuple #[Value.slice none 0 0,Value.int IntKind.i64 0]]:=by kernel_rfl
@[simp] theorem pl52:placesOf Tryz.prog 52=none:=by kernel_rfl
@[simp] theorem ty54:tyOf Tryz.prog 54=some (false,1):=by kernel_rfl
@[simp] theorem zav54:zAV Tryz.prog 54 [Value.tuple #[Value.slice none 0 0,Value.int IntKind.i64 0]]=[.lit (Value.tuple #[Value.slice none 0 0,Value.int IntKind.i64 0])]:=by kernel_rfl
@[simp] theorem z54:zeroOf Tryz.prog 54=some [Value.tuple #[Value.slice none 0 0,Value.int IntKind.i64 0]]:=by kernel_rfl
@[simp] theorem pl54:placesOf Tryz.prog 54=none:=by kernel_rfl
@[simp] theorem ty59:tyOf Tryz.prog 59=some (false,1):=by kernel_rfl
@[simp] theorem zav59:zAV Tryz.prog 59 [Value.slice none 0 0]=[.nl 1]:=by kernel_rfl
@[simp] theorem z59:zeroOf Tryz.prog 59=some [Value.slice none 0 0]:=by kernel_rfl
@[simp] theorem pl59:placesOf Tryz.prog 59=none:=by kernel_rfl
@[simp] theorem el59:elOf Tryz.prog 59=some (9,false,1,16,[Value.string {data:=#[]}]):=by kernel_rfl
@[simp] theorem ty62:tyOf Tryz.prog 62=some (false,1):=by kernel_rfl
@[simp] theorem pl62:placesOf Tryz.prog 62=none:=by kernel_rfl
@[simp] theorem if62:ifT Tryz.prog 62=true:=by kernel_rfl
@[simp] theorem ty63:tyOf Tryz.prog 63=some (false,1):=by kernel_rfl
@[simp] theorem zav63:zAV Tryz.prog 63 [Value.tuple #[Value.int IntKind.i64 0,Value.nilIface]]=[.lit (Value.tuple #[Value.int IntKind.i64 0,Value.nilIface])]:=by kernel_rfl
@[simp] theorem z63:zeroOf Tryz.prog 63=some [Value.tuple #[Value.int IntKind.i64 0,Value.nilIface]]:=by kernel_rfl
@[simp] theorem pl63:placesOf Tryz.prog 63=none:=by kernel_rfl
@[simp] theorem ty65:tyOf Tryz.prog 65=some (false,1):=by kernel_rfl
@[simp] theorem zav65:zAV Tryz.prog 65 [Value.tuple #[Value.agg #[Value.bool false,Value.slice none 0 0,Value.slice none 0 0],Value.int IntKind.i64 0,Value.int IntKind.i64 0]]=[.lit (Value.tuple #[Value.agg #[Value.bool false,Value.slice none 0 0,Value.slice none 0 0],Value.int IntKind.i64 0,Value.int IntKind.i64 0])]:=by kernel_rfl
@[simp] theorem z65:zeroOf Tryz.prog 65=some [Value.tuple #[Value.agg #[Value.bool false,Value.slice none 0 0,Value.slice none 0 0],Value.int IntKind.i64 0,Value.int IntKind.i64 0]]:=by kernel_rfl
@[simp] theorem pl65:placesOf Tryz.prog 65=none:=by kernel_rfl
@[simp] theorem ty69:tyOf Tryz.prog 69=some (false,1):=by kernel_rfl
@[simp] theorem zav69:zAV Tryz.prog 69 [Value.slice none 0 0]=[.nl 1]:=by kernel_rfl
@[simp] theorem z69:zeroOf Tryz.prog 69=some [Value.slice none 0 0]:=by kernel_rfl
@[simp] theorem pl69:placesOf Tryz.prog 69=none:=by kernel_rfl
@[simp] theorem el69:elOf Tryz.prog 69=some (5,false,1,1,[Value.int IntKind.u8 0]):=by kernel_rfl
@[simp] theorem by69:bytT Tryz.prog 69=some 5:=by kernel_rfl
@[simp] theorem ty87:tyOf Tryz.prog 87=some (false,1):=by kernel_rfl
@[simp] theorem zav87:zAV Tryz.prog 87 [Value.int IntKind.u64 0]=[.lit (Value.int IntKind.u64 0)]:=by kernel_rfl
@[simp] theorem z87:zeroOf Tryz.prog 87=some [Value.int IntKind.u64 0]:=by kernel_rfl
@[simp] theorem pl87:placesOf Tryz.prog 87=none:=by kernel_rfl
@[simp] theorem in87:intT Tryz.prog 87=some .u64:=by kernel_rfl
@[simp] theorem un87: Tryz.prog.underlying 87=some (.int .u64):=by kernel_rfl
@[simp] theorem ty106:tyOf Tryz.prog 106=some (true,2):=by kernel_rfl
@[simp] theorem zav106:zAV Tryz.prog 106 [Value.bool false,Value.slice none 0 0]=[.lit (Value.bool false),.nl 1]:=by kernel_rfl
@[simp] theorem z106:zeroOf Tryz.prog 106=some [Value.bool false,Value.slice none 0 0]:=by kernel_rfl
@[simp] theorem fld106_0:fldOf Tryz.prog 106 0=some (0,false,1):=by kernel_rfl
@[simp] theorem fld106_1:fldOf Tryz.prog 106 1=some (1,false,1):=by kernel_rfl
@[simp] theorem pl106:placesOf Tryz.prog 106=some [(0,1),(1,1)]:=by kernel_rfl
@[simp] theorem ty108:tyOf Tryz.prog 108=some (true,5):=by kernel_rfl
@[simp] theorem zav108:zAV Tryz.prog 108 [Value.int IntKind.i64 0,Value.int IntKind.i64 0,Value.int IntKind.i64 0,Value.int IntKind.i64 0,Value.int IntKind.i64 0]=[.lit (Value.int IntKind.i64 0),.lit (Value.int IntKind.i64 0),.lit (Value.int IntKind.i64 0),.lit (Value.int IntKind.i64 0),.lit (Value.int IntKind.i64 0)]:=by kernel_rfl
@[simp] theorem z108:zeroOf Tryz.prog 108=some [Value.int IntKind.i64 0,Value.int IntKind.i64 0,Value.int IntKind.i64 0,Value.int IntKind.i64 0,Value.int IntKind.i64 0]:=by kernel_rfl
@[simp] theorem pl108:placesOf Tryz.prog 108=none:=by kernel_rfl
@[simp] theorem ar108:arOf Tryz.prog 108=some (5,false,1):=by kernel_rfl
@[simp] theorem nel108:elOf Tryz.prog 108=none:=by kernel_rfl
@[simp] theorem ty111:tyOf Tryz.prog 111=some (true,2):=by kernel_rfl
@[simp] theorem zav111:zAV Tryz.prog 111 [Value.int IntKind.i64 0,Value.bool false]=[.lit (Value.int IntKind.i64 0),.lit (Value.bool false)]:=by kernel_rfl
@[simp] theorem z111:zeroOf Tryz.prog 111=some [Value.int IntKind.i64 0,Value.bool false]:=by kernel_rfl
@[simp] theorem fld111_0:fldOf Tryz.prog 111 0=some (0,false,1):=by kernel_rfl
@[simp] theorem fld111_1:fldOf Tryz.prog 111 1=some (1,false,1):=by kernel_rfl
@[simp] theorem pl111:placesOf Tryz.prog 111=some [(0,1),(1,1)]:=by kernel_rfl
@[simp] theorem ty112:tyOf Tryz.prog 112=some (false,1):=by kernel_rfl
@[simp] theorem zav112:zAV Tryz.prog 112 [Value.tuple #[Value.agg #[Value.int IntKind.i64 0,Value.bool false],Value.bool false]]=[.lit (Value.tuple #[Value.agg #[Value.int IntKind.i64 0,Value.bool false],Value.bool false])]:=by kernel_rfl
@[simp] theorem z112:zeroOf Tryz.prog 112=some [Value.tuple #[Value.agg #[Value.int IntKind.i64 0,Value.bool false],Value.bool false]]:=by kernel_rfl
@[simp] theorem pl112:placesOf Tryz.prog 112=none:=by kernel_rfl
@[simp] theorem ty118:tyOf Tryz.prog 118=some (false,1):=by kernel_rfl
@[simp] theorem zav118:zAV Tryz.prog 118 [Value.pointer none]=[.lit (Value.pointer none)]:=by kernel_rfl
@[simp] theorem z118:zeroOf Tryz.prog 118=some [Value.pointer none]:=by kernel_rfl
@[simp] theorem pl118:placesOf Tryz.prog 118=none:=by kernel_rfl
@[simp] theorem pt118:ptT Tryz.prog 118=some 120:=by kernel_rfl
@[simp] theorem ty120:tyOf Tryz.prog 120=some (true,3):=by kernel_rfl
@[simp] theorem zav120:zAV Tryz.prog 120 [Value.string {data:=#[]},Value.int IntKind.i64 0,Value.int IntKind.i64 0]=[.lit (Value.string {data:=#[]}),.lit (Value.int IntKind.i64 0),.lit (Value.int IntKind.i64 0)]:=by kernel_rfl
@[simp] theorem z120:zeroOf Tryz.prog 120=some [Value.string {data:=#[]},Value.int IntKind.i64 0,Value.int IntKind.i64 0]:=by kernel_rfl
@[simp] theorem fld120_0:fldOf Tryz.prog 120 0=some (0,false,1):=by kernel_rfl
@[simp] theorem fld120_1:fldOf Tryz.prog 120 1=some (1,false,1):=by kernel_rfl
@[simp] theorem fld120_2:fldOf Tryz.prog 120 2=some (2,false,1):=by kernel_rfl
@[simp] theorem pl120:placesOf Tryz.prog 120=some [(0,1),(1,1),(2,1)]:=by kernel_rfl
@[simp] theorem ty124:tyOf Tryz.prog 124=some (false,1):=by kernel_rfl
@[simp] theorem zav124:zAV Tryz.prog 124 [Value.tuple #[Value.slice none 0 0,Value.int IntKind.i64 0,Value.int IntKind.i64 0]]=[.lit (Value.tuple #[Value.slice none 0 0,Value.int IntKind.i64 0,Value.int IntKind.i64 0])]:=by kernel_rfl
@[simp] theorem z124:zeroOf Tryz.prog 124=some [Value.tuple #[Value.slice none 0 0,Value.int IntKind.i64 0,Value.int IntKind.i64 0]]:=by kernel_rfl
@[simp] theorem pl124:placesOf Tryz.prog 124=none:=by kernel_rfl
@[simp] theorem ty137:tyOf Tryz.prog 137=some (false,1):=by kernel_rfl
@[simp] theorem zav137:zAV Tryz.prog 137 [Value.pointer none]=[.lit (Value.pointer none)]:=by kernel_rfl
@[simp] theorem z137:zeroOf Tryz.prog 137=some [Value.pointer none]:=by kernel_rfl
@[simp] theorem pl137:placesOf Tryz.prog 137=none:=by kernel_rfl
@[simp] theorem pt137:ptT Tryz.prog 137=some 139:=by kernel_rfl
@[simp] theorem ty139:tyOf Tryz.prog 139=some (true,2):=by kernel_rfl
@[simp] theorem zav139:zAV Tryz.prog 139 [Value.pointer none,Value.slice none 0 0]=[.lit (Value.pointer none),.nl 1]:=by kernel_rfl
@[simp] theorem z139:zeroOf Tryz.prog 139=some [Value.pointer none,Value.slice none 0 0]:=by kernel_rfl
@[simp] theorem fld139_0:fldOf Tryz.prog 139 0=some (0,false,1):=by kernel_rfl
@[simp] theorem fld139_1:fldOf Tryz.prog 139 1=some (1,false,1):=by kernel_rfl
@[simp] theorem pl139:placesOf Tryz.prog 139=some [(0,1),(1,1)]:=by kernel_rfl
@[simp] theorem ty147:tyOf Tryz.prog 147=some (false,1):=by kernel_rfl
@[simp] theorem zav147:zAV Tryz.prog 147 [Value.tuple #[Value.slice none 0 0,Value.slice none 0 0,Value.int IntKind.i64 0]]=[.lit (Value.tuple #[Value.slice none 0 0,Value.slice none 0 0,Value.int IntKind.i64 0])]:=by kernel_rfl
@[simp] theorem z147:zeroOf Tryz.prog 147=some [Value.tuple #[Value.slice none 0 0,Value.slice none 0 0,Value.int IntKind.i64 0]]:=by kernel_rfl
@[simp] theorem pl147:placesOf Tryz.prog 147=none:=by kernel_rfl
@[simp] theorem ty149:tyOf Tryz.prog 149=some (false,1):=by kernel_rfl
@[simp] theorem zav149:zAV Tryz.prog 149 [Value.int IntKind.u32 0]=[.lit (Value.int IntKind.u32 0)]:=by kernel_rfl
@[simp] theorem z149:zeroOf Tryz.prog 149=some [Value.int IntKind.u32 0]:=by kernel_rfl
@[simp] theorem pl149:placesOf Tryz.prog 149=none:=by kernel_rfl
@[simp] theorem in149:intT Tryz.prog 149=some .u32:=by kernel_rfl
@[simp] theorem un149: Tryz.prog.underlying 149=some (.int .u32):=by kernel_rfl
@[simp] theorem ty150:tyOf Tryz.prog 150=some (false,1):=by kernel_rfl
@[simp] theorem zav150:zAV Tryz.prog 150 [Value.tuple #[Value.int IntKind.u64 0,Value.bool false]]=[.lit (Value.tuple #[Value.int IntKind.u64 0,Value.bool false])]:=by kernel_rfl
@[simp] theorem z150:zeroOf Tryz.prog 150=some [Value.tuple #[Value.int IntKind.u64 0,Value.bool false]]:=by kernel_rfl
@[simp] theorem pl150:placesOf Tryz.prog 150=none:=by kernel_rfl
@[simp] theorem ty152:tyOf Tryz.prog 152=some (false,1):=by kernel_rfl
@[simp] theorem zav152:zAV Tryz.prog 152 [Value.int IntKind.u64 0]=[.lit (Value.int IntKind.u64 0)]:=by kernel_rfl
@[simp] theorem z152:zeroOf Tryz.prog 152=some [Value.int IntKind.u64 0]:=by kernel_rfl
@[simp] theorem pl152:placesOf Tryz.prog 152=none:=by kernel_rfl
@[simp] theorem in152:intT Tryz.prog 152=some .u64:=by kernel_rfl
@[simp] theorem un152: Tryz.prog.underlying 152=some (.int .u64):=by kernel_rfl
@[simp] theorem ty166:tyOf Tryz.prog 166=some (false,1):=by kernel_rfl
@[simp] theorem zav166:zAV Tryz.prog 166 [Value.map none]=[.lit (Value.map none)]:=by kernel_rfl
@[simp] theorem z166:zeroOf Tryz.prog 166=some [Value.map none]:=by kernel_rfl
@[simp] theorem pl166:placesOf Tryz.prog 166=none:=by kernel_rfl
@[simp] theorem ty174:tyOf Tryz.prog 174=some (false,1):=by kernel_rfl
@[simp] theorem zav174:zAV Tryz.prog 174 [Value.int IntKind.i64 0]=[.lit (Value.int IntKind.i64 0)]:=by kernel_rfl
@[simp] theorem z174:zeroOf Tryz.prog 174=some [Value.int IntKind.i64 0]:=by kernel_rfl
@[simp] theorem pl174:placesOf Tryz.prog 174=none:=by kernel_rfl
@[simp] theorem in174:intT Tryz.prog 174=some .i64:=by kernel_rfl
@[simp] theorem un174: Tryz.prog.underlying 174=some (.int .i64):=by kernel_rfl
@[simp] theorem ty175:tyOf Tryz.prog 175=some (false,1):=by kernel_rfl
@[simp] theorem zav175:zAV Tryz.prog 175 [Value.tuple #[Value.int IntKind.i64 0,Value.nilIface]]=[.lit (Value.tuple #[Value.int IntKind.i64 0,Value.nilIface])]:=by kernel_rfl
@[simp] theorem z175:zeroOf Tryz.prog 175=some [Value.tuple #[Value.int IntKind.i64 0,Value.nilIface]]:=by kernel_rfl
@[simp] theorem pl175:placesOf Tryz.prog 175=none:=by kernel_rfl
@[simp] theorem ty177:tyOf Tryz.prog 177=some (false,1):=by kernel_rfl
@[simp] theorem zav177:zAV Tryz.prog 177 [Value.pointer none]=[.lit (Value.pointer none)]:=by kernel_rfl
@[simp] theorem z177:zeroOf Tryz.prog 177=some [Value.pointer none]:=by kernel_rfl
@[simp] theorem pl177:placesOf Tryz.prog 177=none:=by kernel_rfl
@[simp] theorem pt177:ptT Tryz.prog 177=some 224:=by kernel_rfl
@[simp] theorem ty181:tyOf Tryz.prog 181=some (false,1):=by kernel_rfl
@[simp] theorem zav181:zAV Tryz.prog 181 [Value.tuple #[Value.string {data:=#[]},Value.int IntKind.i64 0]]=[.lit (Value.tuple #[Value.string {data:=#[]},Value.int IntKind.i64 0])]:=by kernel_rfl
@[simp] theorem z181:zeroOf Tryz.prog 181=some [Value.tuple #[Value.string {data:=#[]},Value.int IntKind.i64 0]]:=by kernel_rfl
@[simp] theorem pl181:placesOf Tryz.prog 181=none:=by kernel_rfl
@[simp] theorem ty190:tyOf Tryz.prog 190=some (false,1):=by kernel_rfl
@[simp] theorem zav190:zAV Tryz.prog 190 [Value.tuple #[Value.int IntKind.i32 0,Value.int IntKind.i64 0]]=[.lit (Value.tuple #[Value.int IntKind.i32 0,Value.int IntKind.i64 0])]:=by kernel_rfl
@[simp] theorem z190:zeroOf Tryz.prog 190=some [Value.tuple #[Value.int IntKind.i32 0,Value.int IntKind.i64 0]]:=by kernel_rfl
@[simp] theorem pl190:placesOf Tryz.prog 190=none:=by kernel_rfl
@[simp] theorem ty192:tyOf Tryz.prog 192=some (false,1):=by kernel_rfl
@[simp] theorem zav192:zAV Tryz.prog 192 [Value.pointer none]=[.lit (Value.pointer none)]:=by kernel_rfl
@[simp] theorem z192:zeroOf Tryz.prog 192=some [Value.pointer none]:=by kernel_rfl
@[simp] theorem pl192:placesOf Tryz.prog 192=none:=by kernel_rfl
@[simp] theorem pt192:ptT Tryz.prog 192=some 5:=by kernel_rfl
@[simp] theorem ty194:tyOf Tryz.prog 194=some (false,1):=by kernel_rfl
@[simp] theorem zav194:zAV Tryz.prog 194 [Value.tuple #[Value.slice none 0 0,Value.int IntKind.i64 0]]=[.lit (Value.tuple #[Value.slice none 0 0,Value.int IntKind.i64 0])]:=by kernel_rfl
@[simp] theorem z194:zeroOf Tryz.prog 194=some [Value.tuple #[Value.slice none 0 0,Value.int IntKind.i64 0]]:=by kernel_rfl
@[simp] theorem pl194:placesOf Tryz.prog 194=none:=by kernel_rfl
@[simp] theorem ty196:tyOf Tryz.prog 196=some (false,1):=by kernel_rfl
@[simp] theorem zav196:zAV Tryz.prog 196 [Value.tuple #[Value.int IntKind.u32 0,Value.int IntKind.u32 0]]=[.lit (Value.tuple #[Value.int IntKind.u32 0,Value.int IntKind.u32 0])]:=by kernel_rfl
@[simp] theorem z196:zeroOf Tryz.prog 196=some [Value.tuple #[Value.int IntKind.u32 0,Value.int IntKind.u32 0]]:=by kernel_rfl
@[simp] theorem pl196:placesOf Tryz.prog 196=none:=by kernel_rfl
@[simp] theorem ty210:tyOf Tryz.prog 210=some (true,24):=by kernel_rfl
@[simp] theorem zav210:zAV Tryz.prog 210 [Value.int IntKind.u8 0,Value.int IntKind.u8 0,Value.int IntKind.u8 0,Value.int IntKind.u8 0,Value.int IntKind.u8 0,Value.int IntKind.u8 0,Value.int IntKind.u8 0,Value.int IntKind.u8 0,Value.int IntKind.u8 0,Value.int IntKind.u8 0,Value.int IntKind.u8 0,Value.int IntKind.u8 0,Value.int IntKind.u8 0,Value.int IntKind.u8 0,Value.int IntKind.u8 0,Value.int IntKind.u8 0,Value.int IntKind.u8 0,Value.int IntKind.u8 0,Value.int IntKind.u8 0,Value.int IntKind.u8 0,Value.int IntKind.u8 0,Value.int IntKind.u8 0,Value.int IntKind.u8 0,Value.int IntKind.u8 0]=[.lit (Value.int IntKind.u8 0),.lit (Value.int IntKind.u8 0),.lit (Value.int IntKind.u8 0),.lit (Value.int IntKind.u8 0),.lit (Value.int IntKind.u8 0),.lit (Value.int IntKind.u8 0),.lit (Value.int IntKind.u8 0),.lit (Value.int IntKind.u8 0),.lit (Value.int IntKind.u8 0),.lit (Value.int IntKind.u8 0),.lit (Value.int IntKind.u8 0),.lit (Value.int IntKind.u8 0),.lit (Value.int IntKind.u8 0),.lit (Value.int IntKind.u8 0),.lit (Value.int IntKind.u8 0),.lit (Value.int IntKind.u8 0),.lit (Value.int IntKind.u8 0),.lit (Value.int IntKind.u8 0),.lit (Value.int IntKind.u8 0),.lit (Value.int IntKind.u8 0),.lit (Value.int IntKind.u8 0),.lit (Value.int IntKind.u8 0),.lit (Value.int IntKind.u8 0),.lit (Value.int IntKind.u8 0)]:=by kernel_rfl
@[simp] theorem z210:zeroOf Tryz.prog 210=some [Value.int IntKind.u8 0,Value.int IntKind.u8 0,Value.int IntKind.u8 0,Value.int IntKind.u8 0,Value.int IntKind.u8 0,Value.int IntKind.u8 0,Value.int IntKind.u8 0,Value.int IntKind.u8 0,Value.int IntKind.u8 0,Value.int IntKind.u8 0,Value.int IntKind.u8 0,Value.int IntKind.u8 0,Value.int IntKind.u8 0,Value.int IntKind.u8 0,Value.int IntKind.u8 0,Value.int IntKind.u8 0,Value.int IntKind.u8 0,Value.int IntKind.u8 0,Value.int IntKind.u8 0,Value.int IntKind.u8 0,Value.int IntKind.u8 0,Value.int IntKind.u8 0,Value.int IntKind.u8 0,Value.int IntKind.u8 0]:=by kernel_rfl
@[simp] theorem pl210:placesOf Tryz.prog 210=none:=by kernel_rfl
@[simp] theorem ar210:arOf Tryz.prog 210=some (24,false,1):=by kernel_rfl
@[simp] theorem nel210:elOf Tryz.prog 210=none:=by kernel_rfl
@[simp] theorem ty213:tyOf Tryz.prog 213=some (false,1):=by kernel_rfl
@[simp] theorem zav213:zAV Tryz.prog 213 [Value.tuple #[Value.slice none 0 0,Value.string {data:=#[]}]]=[.lit (Value.tuple #[Value.slice none 0 0,Value.string {data:=#[]}])]:=by kernel_rfl
@[simp] theorem z213:zeroOf Tryz.prog 213=some [Value.tuple #[Value.slice none 0 0,Value.string {data:=#[]}]]:=by kernel_rfl
@[simp] theorem pl213:placesOf Tryz.prog 213=none:=by kernel_rfl
@[simp] theorem ty216:tyOf Tryz.prog 216=some (false,1):=by kernel_rfl
@[simp] theorem zav216:zAV Tryz.prog 216 [Value.tuple #[Value.slice none 0 0,Value.slice none 0 0]]=[.lit (Value.tuple #[Value.slice none 0 0,Value.slice none 0 0])]:=by kernel_rfl
@[simp] theorem z216:zeroOf Tryz.prog 216=some [Value.tuple #[Value.slice none 0 0,Value.slice none 0 0]]:=by kernel_rfl
@[simp] theorem pl216:placesOf Tryz.prog 216=none:=by kernel_rfl
@[simp] theorem ty221:tyOf Tryz.prog 221=some (false,1):=by kernel_rfl
@[simp] theorem zav221:zAV Tryz.prog 221 [Value.tuple #[Value.int IntKind.u64 0,Value.nilIface]]=[.lit (Value.tuple #[Value.int IntKind.u64 0,Value.nilIface])]:=by kernel_rfl
@[simp] theorem z221:zeroOf Tryz.prog 221=some [Value.tuple #[Value.int IntKind.u64 0,Value.nilIface]]:=by kernel_rfl
@[simp] theorem pl221:placesOf Tryz.prog 221=none:=by kernel_rfl
@[simp] theorem ty224:tyOf Tryz.prog 224=some (true,3):=by kernel_rfl
@[simp] theorem zav224:zAV Tryz.prog 224 [Value.string {data:=#[]},Value.string {data:=#[]},Value.nilIface]=[.lit (Value.string {data:=#[]}),.lit (Value.string {data:=#[]}),.lit (Value.nilIface)]:=by kernel_rfl
@[simp] theorem z224:zeroOf Tryz.prog 224=some [Value.string {data:=#[]},Value.string {data:=#[]},Value.nilIface]:=by kernel_rfl
@[simp] theorem fld224_0:fldOf Tryz.prog 224 0=some (0,false,1):=by kernel_rfl
@[simp] theorem fld224_1:fldOf Tryz.prog 224 1=some (1,false,1):=by kernel_rfl
@[simp] theorem fld224_2:fldOf Tryz.prog 224 2=some (2,false,1):=by kernel_rfl
@[simp] theorem pl224:placesOf Tryz.prog 224=some [(0,1),(1,1),(2,1)]:=by kernel_rfl
@[simp] theorem ty226:tyOf Tryz.prog 226=some (false,1):=by kernel_rfl
@[simp] theorem zav226:zAV Tryz.prog 226 [Value.tuple #[Value.int IntKind.u64 0,Value.int IntKind.u64 0]]=[.lit (Value.tuple #[Value.int IntKind.u64 0,Value.int IntKind.u64 0])]:=by kernel_rfl
@[simp] theorem z226:zeroOf Tryz.prog 226=some [Value.tuple #[Value.int IntKind.u64 0,Value.int IntKind.u64 0]]:=by kernel_rfl
@[simp] theorem pl226:placesOf Tryz.prog 226=none:=by kernel_rfl
@[simp] theorem ty233:tyOf Tryz.prog 233=some (false,1):=by kernel_rfl
@[simp] theorem zav233:zAV Tryz.prog 233 [Value.pointer none]=[.lit (Value.pointer none)]:=by kernel_rfl
@[simp] theorem z233:zeroOf Tryz.prog 233=some [Value.pointer none]:=by kernel_rfl
@[simp] theorem pl233:placesOf Tryz.prog 233=none:=by kernel_rfl
@[simp] theorem ty247:tyOf Tryz.prog 247=some (true,20):=by kernel_rfl
@[simp] theorem zav247:zAV Tryz.prog 247 [Value.int IntKind.u64 0,Value.int IntKind.u64 0,Value.int IntKind.u64 0,Value.int IntKind.u64 0,Value.int IntKind.u64 0,Value.int IntKind.u64 0,Value.int IntKind.u64 0,Value.int IntKind.u64 0,Value.int IntKind.u64 0,Value.int IntKind.u64 0,Value.int IntKind.u64 0,Value.int IntKind.u64 0,Value.int IntKind.u64 0,Value.int IntKind.u64 0,Value.int IntKind.u64 0,Value.int IntKind.u64 0,Value.int IntKind.u64 0,Value.int IntKind.u64 0,Value.int IntKind.u64 0,Value.int IntKind.u64 0]=[.lit (Value.int IntKind.u64 0),.lit (Value.int IntKind.u64 0),.lit (Value.int IntKind.u64 0),.lit (Value.int IntKind.u64 0),.lit (Value.int IntKind.u64 0),.lit (Value.int IntKind.u64 0),.lit (Value.int IntKind.u64 0),.lit (Value.int IntKind.u64 0),.lit (Value.int IntKind.u64 0),.lit (Value.int IntKind.u64 0),.lit (Value.int IntKind.u64 0),.lit (Value.int IntKind.u64 0),.lit (Value.int IntKind.u64 0),.lit (Value.int IntKind.u64 0),.lit (Value.int IntKind.u64 0),.lit (Value.int IntKind.u64 0),.lit (Value.int IntKind.u64 0),.lit (Value.int IntKind.u64 0),.lit (Value.int IntKind.u64 0),.lit (Value.int IntKind.u64 0)]:=by kernel_rfl
@[simp] theorem z247:zeroOf Tryz.prog 247=some [Value.int IntKind.u64 0,Value.int IntKind.u64 0,Value.int IntKind.u64 0,Value.int IntKind.u64 0,Value.int IntKind.u64 0,Value.int IntKind.u64 0,Value.int IntKind.u64 0,Value.int IntKind.u64 0,Value.int IntKind.u64 0,Value.int IntKind.u64 0,Value.int IntKind.u64 0,Value.int IntKind.u64 0,Value.int IntKind.u64 0,Value.int IntKind.u64 0,Value.int IntKind.u64 0,Value.int IntKind.u64 0,Value.int IntKind.u64 0,Value.int IntKind.u64 0,Value.int IntKind.u64 0,Value.int IntKind.u64 0]:=by kernel_rfl
@[simp] theorem pl247:placesOf Tryz.prog 247=none:=by kernel_rfl
@[simp] theorem ar247:arOf Tryz.prog 247=some (20,false,1):=by kernel_rfl
@[simp] theorem nel247:elOf Tryz.prog 247=none:=by kernel_rfl
@[simp] theorem ty248:tyOf Tryz.prog 248=some (true,65):=by kernel_rfl
@[simp] theorem pl248:placesOf Tryz.prog 248=none:=by kernel_rfl
@[simp] theorem ar248:arOf Tryz.prog 248=some (65,false,1):=by kernel_rfl
@[simp] theorem nel248:elOf Tryz.prog 248=none:=by kernel_rfl
@[simp] theorem ty252:tyOf Tryz.prog 252=some (false,1):=by kernel_rfl
@[simp] theorem zav252:zAV Tryz.prog 252 [Value.pointer none]=[.lit (Value.pointer none)]:=by kernel_rfl
@[simp] theorem z252:zeroOf Tryz.prog 252=some [Value.pointer none]:=by kernel_rfl
@[simp] theorem pl252:placesOf Tryz.prog 252=none:=by kernel_rfl
@[simp] theorem pt252:ptT Tryz.prog 252=some 254:=by kernel_rfl
@[simp] theorem ty254:tyOf Tryz.prog 254=some (true,1):=by kernel_rfl
@[simp] theorem zav254:zAV Tryz.prog 254 [Value.string {data:=#[]}]=[.lit (Value.string {data:=#[]})]:=by kernel_rfl
@[simp] theorem z254:zeroOf Tryz.prog 254=some [Value.string {data:=#[]}]:=by kernel_rfl
@[simp] theorem fld254_0:fldOf Tryz.prog 254 0=some (0,false,1):=by kernel_rfl
@[simp] theorem pl254:placesOf Tryz.prog 254=some [(0,1)]:=by kernel_rfl
@[simp] theorem ty256:tyOf Tryz.prog 256=some (false,1):=by kernel_rfl
@[simp] theorem zav256:zAV Tryz.prog 256 [Value.tuple #[Value.int IntKind.u64 0,Value.int IntKind.u64 0]]=[.lit (Value.tuple #[Value.int IntKind.u64 0,Value.int IntKind.u64 0])]:=by kernel_rfl
@[simp] theorem z256:zeroOf Tryz.prog 256=some [Value.tuple #[Value.int IntKind.u64 0,Value.int IntKind.u64 0]]:=by kernel_rfl
@[simp] theorem pl256:placesOf Tryz.prog 256=none:=by kernel_rfl
@[simp] theorem ty258:tyOf Tryz.prog 258=some (true,256):=by kernel_rfl
@[simp] theorem pl258:placesOf Tryz.prog 258=none:=by kernel_rfl
@[simp] theorem ar258:arOf Tryz.prog 258=some (256,false,1):=by kernel_rfl
@[simp] theorem nel258:elOf Tryz.prog 258=none:=by kernel_rfl
@[simp] theorem ty260:tyOf Tryz.prog 260=some (true,2):=by kernel_rfl
@[simp] theorem zav260:zAV Tryz.prog 260 [Value.int IntKind.u8 0,Value.int IntKind.u8 0]=[.lit (Value.int IntKind.u8 0),.lit (Value.int IntKind.u8 0)]:=by kernel_rfl
@[simp] theorem z260:zeroOf Tryz.prog 260=some [Value.int IntKind.u8 0,Value.int IntKind.u8 0]:=by kernel_rfl
@[simp] theorem fld260_0:fldOf Tryz.prog 260 0=some (0,false,1):=by kernel_rfl
@[simp] theorem fld260_1:fldOf Tryz.prog 260 1=some (1,false,1):=by kernel_rfl
@[simp] theorem pl260:placesOf Tryz.prog 260=some [(0,1),(1,1)]:=by kernel_rfl
@[simp] theorem ty261:tyOf Tryz.prog 261=some (true,32):=by kernel_rfl
@[simp] theorem zav261:zAV Tryz.prog 261 [Value.int IntKind.u8 0,Value.int IntKind.u8 0,Value.int IntKind.u8 0,Value.int IntKind.u8 0,Value.int IntKind.u8 0,Value.int IntKind.u8 0,Value.int IntKind.u8 0,Value.int IntKind.u8 0,Value.int IntKind.u8 0,Value.int IntKind.u8 0,Value.int IntKind.u8 0,Value.int IntKind.u8 0,Value.int IntKind.u8 0,Value.int IntKind.u8 0,Value.int IntKind.u8 0,Value.int IntKind.u8 0,Value.int IntKind.u8 0,Value.int IntKind.u8 0,Value.int IntKind.u8 0,Value.int IntKind.u8 0,Value.int IntKind.u8 0,Value.int IntKind.u8 0,Value.int IntKind.u8 0,Value.int IntKind.u8 0,Value.int IntKind.u8 0,Value.int IntKind.u8 0,Value.int IntKind.u8 0,Value.int IntKind.u8 0,Value.int IntKind.u8 0,Value.int IntKind.u8 0,Value.int IntKind.u8 0,Value.int IntKind.u8 0]=[.lit (Value.int IntKind.u8 0),.lit (Value.int IntKind.u8 0),.lit (Value.int IntKind.u8 0),.lit (Value.int IntKind.u8 0),.lit (Value.int IntKind.u8 0),.lit (Value.int IntKind.u8 0),.lit (Value.int IntKind.u8 0),.lit (Value.int IntKind.u8 0),.lit (Value.int IntKind.u8 0),.lit (Value.int IntKind.u8 0),.lit (Value.int IntKind.u8 0),.lit (Value.int IntKind.u8 0),.lit (Value.int IntKind.u8 0),.lit (Value.int IntKind.u8 0),.lit (Value.int IntKind.u8 0),.lit (Value.int IntKind.u8 0),.lit (Value.int IntKind.u8 0),.lit (Value.int IntKind.u8 0),.lit (Value.int IntKind.u8 0),.lit (Value.int IntKind.u8 0),.lit (Value.int IntKind.u8 0),.lit (Value.int IntKind.u8 0),.lit (Value.int IntKind.u8 0),.lit (Value.int IntKind.u8 0),.lit (Value.int IntKind.u8 0),.lit (Value.int IntKind.u8 0),.lit (Value.int IntKind.u8 0),.lit (Value.int IntKind.u8 0),.lit (Value.int IntKind.u8 0),.lit (Value.int IntKind.u8 0),.lit (Value.int IntKind.u8 0),.lit (Value.int IntKind.u8 0)]:=by kernel_rfl
@[simp] theorem z261:zeroOf Tryz.prog 261=some [Value.int IntKind.u8 0,Value.int IntKind.u8 0,Value.int IntKind.u8 0,Value.int IntKind.u8 0,Value.int IntKind.u8 0,Value.int IntKind.u8 0,Value.int IntKind.u8 0,Value.int IntKind.u8 0,Value.int IntKind.u8 0,Value.int IntKind.u8 0,Value.int IntKind.u8 0,Value.int IntKind.u8 0,Value.int IntKind.u8 0,Value.int IntKind.u8 0,Value.int IntKind.u8 0,Value.int IntKind.u8 0,Value.int IntKind.u8 0,Value.int IntKind.u8 0,Value.int IntKind.u8 0,Value.int IntKind.u8 0,Value.int IntKind.u8 0,Value.int IntKind.u8 0,Value.int IntKind.u8 0,Value.int IntKind.u8 0,Value.int IntKind.u8 0,Value.int IntKind.u8 0,Value.int IntKind.u8 0,Value.int IntKind.u8 0,Value.int IntKind.u8 0,Value.int IntKind.u8 0,Value.int IntKind.u8 0,Value.int IntKind.u8 0]:=by kernel_rfl
@[simp] theorem pl261:placesOf Tryz.prog 261=none:=by kernel_rfl
@[simp] theorem ar261:arOf Tryz.prog 261=some (16,true,2):=by kernel_rfl
@[simp] theorem nel261:elOf Tryz.prog 261=none:=by kernel_rfl
@[simp] theorem ty263:tyOf Tryz.prog 263=some (true,32):=by kernel_rfl
@[simp] theorem zav263:zAV Tryz.prog 263 [Value.int IntKind.u8 0,Value.int IntKind.u8 0,Value.int IntKind.u8 0,Value.int IntKind.u8 0,Value.int IntKind.u8 0,Value.int IntKind.u8 0,Value.int IntKind.u8 0,Value.int IntKind.u8 0,Value.int IntKind.u8 0,Value.int IntKind.u8 0,Value.int IntKind.u8 0,Value.int IntKind.u8 0,Value.int IntKind.u8 0,Value.int IntKind.u8 0,Value.int IntKind.u8 0,Value.int IntKind.u8 0,Value.int IntKind.u8 0,Value.int IntKind.u8 0,Value.int IntKind.u8 0,Value.int IntKind.u8 0,Value.int IntKind.u8 0,Value.int IntKind.u8 0,Value.int IntKind.u8 0,Value.int IntKind.u8 0,Value.int IntKind.u8 0,Value.int IntKind.u8 0,Value.int IntKind.u8 0,Value.int IntKind.u8 0,Value.int IntKind.u8 0,Value.int IntKind.u8 0,Value.int IntKind.u8 0,Value.int IntKind.u8 0]=[.lit (Value.int IntKind.u8 0),.lit (Value.int IntKind.u8 0),.lit (Value.int IntKind.u8 0),.lit (Value.int IntKind.u8 0),.lit (Value.int IntKind.u8 0),.lit (Value.int IntKind.u8 0),.lit (Value.int IntKind.u8 0),.lit (Value.int IntKind.u8 0),.lit (Value.int IntKind.u8 0),.lit (Value.int IntKind.u8 0),.lit (Value.int IntKind.u8 0),.lit (Value.int IntKind.u8 0),.lit (Value.int IntKind.u8 0),.lit (Value.int IntKind.u8 0),.lit (Value.int IntKind.u8 0),.lit (Value.int IntKind.u8 0),.lit (Value.int IntKind.u8 0),.lit (Value.int IntKind.u8 0),.lit (Value.int IntKind.u8 0),.lit (Value.int IntKind.u8 0),.lit (Value.int IntKind.u8 0),.lit (Value.int IntKind.u8 0),.lit (Value.int IntKind.u8 0),.lit (Value.int IntKind.u8 0),.lit (Value.int IntKind.u8 0),.lit (Value.int IntKind.u8 0),.lit (Value.int IntKind.u8 0),.lit (Value.int IntKind.u8 0),.lit (Value.int IntKind.u8 0),.lit (Value.int IntKind.u8 0),.lit (Value.int IntKind.u8 0),.lit (Value.int IntKind.u8 0)]:=by kernel_rfl
@[simp] theorem z263:zeroOf Tryz.prog 263=some [Value.int IntKind.u8 0,Value.int IntKind.u8 0,Value.int IntKind.u8 0,Value.int IntKind.u8 0,Value.int IntKind.u8 0,Value.int IntKind.u8 0,Value.int IntKind.u8 0,Value.int IntKind.u8 0,Value.int IntKind.u8 0,Value.int IntKind.u8 0,Value.int IntKind.u8 0,Value.int IntKind.u8 0,Value.int IntKind.u8 0,Value.int IntKind.u8 0,Value.int IntKind.u8 0,Value.int IntKind.u8 0,Value.int IntKind.u8 0,Value.int IntKind.u8 0,Value.int IntKind.u8 0,Value.int IntKind.u8 0,Value.int IntKind.u8 0,Value.int IntKind.u8 0,Value.int IntKind.u8 0,Value.int IntKind.u8 0,Value.int IntKind.u8 0,Value.int IntKind.u8 0,Value.int IntKind.u8 0,Value.int IntKind.u8 0,Value.int IntKind.u8 0,Value.int IntKind.u8 0,Value.int IntKind.u8 0,Value.int IntKind.u8 0]:=by kernel_rfl
@[simp] theorem pl263:placesOf Tryz.prog 263=none:=by kernel_rfl
@[simp] theorem ar263:arOf Tryz.prog 263=some (32,false,1):=by kernel_rfl
@[simp] theorem nel263:elOf Tryz.prog 263=none:=by kernel_rfl
@[simp] theorem ty264:tyOf Tryz.prog 264=some (true,64):=by kernel_rfl
@[simp] theorem pl264:placesOf Tryz.prog 264=none:=by kernel_rfl
@[simp] theorem ar264:arOf Tryz.prog 264=some (64,false,1):=by kernel_rfl
@[simp] theorem nel264:elOf Tryz.prog 264=none:=by kernel_rfl
end
end Go.Proofs.YtnegdhjdienjlaaGreatDoor
