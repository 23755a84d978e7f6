import Derived.Test.YtdaonnnlgfhlaaaGreatDoorGF13
import Derived.Test.YtdaonnnlgfhlaaaGreatDoorProg
import Derived.KernelRfl
set_option linter.all false
namespace Go.Proofs.YtdaonnnlgfhlaaaGreatDoor
section
open Go.RowKit
@[simp] theorem ty3:tyOf Tryz.prog 3=some (false,1):=by kernel_rfl
@[simp] theorem zav3:zAV Tryz.prog 3 [Value.int IntKind.i64 0]=[.lit (Value.int IntKind.i64 0)]:=by kernel_rfl
@[simp] theorem in3:intT Tryz.prog 3=some .i64:=by kernel_rfl
@[simp] theorem ty4:tyOf Tryz.prog 4=some (false,1):=by kernel_rfl
@[simp] theorem zav4:zAV Tryz.prog 4 [Value.bool false]=[.lit (Value.bool false)]:=by kernel_rfl
@[simp] theorem ty9:tyOf Tryz.prog 9=some (false,1):=by kernel_rfl
@[simp] theorem ty22:tyOf Tryz.prog 22=some (false,1):=by kernel_rfl
@[simp] theorem el22:elOf Tryz.prog 22=some (68,true,4,64,[Value.int IntKind.i64 0,Value.bool false,Value.slice none 0 0,Value.slice none 0 0]):=by kernel_rfl
@[simp] theorem ty24:tyOf Tryz.prog 24=some (false,1):=by kernel_rfl
@[simp] theorem el24:elOf Tryz.prog 24=some (114,false,1,4,[Value.int IntKind.u32 0]):=by kernel_rfl
@[simp] theorem ty26:tyOf Tryz.prog 26=some (true,3):=by kernel_rfl
@[simp] theorem zav26:zAV Tryz.prog 26 [Value.bool false,Value.slice none 0 0,Value.slice none 0 0]=[.lit (Value.bool false),.nl 1,.nl 1]:=by kernel_rfl
@[simp] theorem z26:zeroOf Tryz.prog 26=some [Value.bool false,Value.slice none 0 0,Value.slice none 0 0]:=by kernel_rfl
@[simp] theorem fld26_0:fldOf Tryz.prog 26 0=some (0,false,1):=by kernel_rfl
@[simp] theorem fld26_1:fldOf Tryz.prog 26 1=some (1,false,1):=by kernel_rfl
@[simp] theorem fld26_2:fldOf Tryz.prog 26 2=some (2,false,1):=by kernel_rfl
@[simp] theorem pl26:placesOf Tryz.prog 26=some [(0,1),(1,1),(2,1)]:=by kernel_rfl
@[simp] theorem ty28:tyOf Tryz.prog 28=some (true,4):=by kernel_rfl
@[simp] theorem zav28:zAV Tryz.prog 28 [Value.slice none 0 0,Value.bool false,Value.slice none 0 0,Value.slice none 0 0]=[.nl 4,.lit (Value.bool false),.nl 1,.nl 1]:=by kernel_rfl
@[simp] theorem z28:zeroOf Tryz.prog 28=some [Value.slice none 0 0,Value.bool false,Value.slice none 0 0,Value.slice none 0 0]:=by kernel_rfl
@[simp] theorem fld28_0:fldOf Tryz.prog 28 0=some (0,false,1):=by kernel_rfl
@[simp] theorem fld28_1:fldOf Tryz.prog 28 1=some (1,true,3):=by kernel_rfl
@[simp] theorem pl28:placesOf Tryz.prog 28=some [(0,1),(1,3)]:=by kernel_rfl
@[simp] theorem ty40:tyOf Tryz.prog 40=some (false,1):=by kernel_rfl
@[simp] theorem el40:elOf Tryz.prog 40=some (28,true,4,80,[Value.slice none 0 0,Value.bool false,Value.slice none 0 0,Value.slice none 0 0]):=by kernel_rfl
@[simp] theorem zav61:zAV Tryz.prog 61 [Value.int IntKind.i64 0,Value.slice none 0 0,Value.slice none 0 0,Value.bool false,Value.slice none 0 0,Value.slice none 0 0]=[.lit (Value.int IntKind.i64 0),.nl 4,.nl 4,.lit (Value.bool false),.nl 1,.nl 1]:=by kernel_rfl
@[simp] theorem z61:zeroOf Tryz.prog 61=some [Value.int IntKind.i64 0,Value.slice none 0 0,Value.slice none 0 0,Value.bool false,Value.slice none 0 0,Value.slice none 0 0]:=by kernel_rfl
@[simp] theorem fld61_0:fldOf Tryz.prog 61 0=some (0,false,1):=by kernel_rfl
@[simp] theorem fld61_1:fldOf Tryz.prog 61 1=some (1,false,1):=by kernel_rfl
@[simp] theorem fld61_2:fldOf Tryz.prog 61 2=some (2,true,4):=by kernel_rfl
@[simp] theorem pl61:placesOf Tryz.prog 61=some [(0,1),(1,1),(2,4)]:=by kernel_rfl
@[simp] theorem ty68:tyOf Tryz.prog 68=some (true,4):=by kernel_rfl
@[simp] theorem zav68:zAV Tryz.prog 68 [Value.int IntKind.i64 0,Value.bool false,Value.slice none 0 0,Value.slice none 0 0]=[.lit (Value.int IntKind.i64 0),.lit (Value.bool false),.nl 1,.nl 1]:=by kernel_rfl
@[simp] theorem z68:zeroOf Tryz.prog 68=some [Value.int IntKind.i64 0,Value.bool false,Value.slice none 0 0,Value.slice none 0 0]:=by kernel_rfl
@[simp] theorem fld68_0:fldOf Tryz.prog 68 0=some (0,false,1):=by kernel_rfl
@[simp] theorem fld68_1:fldOf Tryz.prog 68 1=some (1,true,3):=by kernel_rfl
@[simp] theorem pl68:placesOf Tryz.prog 68=some [(0,1),(1,3)]:=by kernel_rfl
@[simp] theorem ty74:tyOf Tryz.prog 74=some (true,2):=by kernel_rfl
@[simp] theorem zav74:zAV Tryz.prog 74 [Value.bool false,Value.slice none 0 0]=[.lit (Value.bool false),.nl 1]:=by kernel_rfl
@[simp] theorem z74:zeroOf Tryz.prog 74=some [Value.bool false,Value.slice none 0 0]:=by kernel_rfl
@[simp] theorem fld74_1:fldOf Tryz.prog 74 1=some (1,false,1):=by kernel_rfl
@[simp] theorem ty76:tyOf Tryz.prog 76=some (false,1):=by kernel_rfl
@[simp] theorem mt76:mapT Tryz.prog 76=some 4:=by kernel_rfl
@[simp] theorem zav78:zAV Tryz.prog 78 [Value.slice none 0 0,Value.map none]=[.nl 4,.lit (Value.map none)]:=by kernel_rfl
@[simp] theorem z78:zeroOf Tryz.prog 78=some [Value.slice none 0 0,Value.map none]:=by kernel_rfl
@[simp] theorem fld78_0:fldOf Tryz.prog 78 0=some (0,false,1):=by kernel_rfl
@[simp] theorem fld78_1:fldOf Tryz.prog 78 1=some (1,false,1):=by kernel_rfl
@[simp] theorem pl78:placesOf Tryz.prog 78=some [(0,1),(1,1)]:=by kernel_rfl
@[simp] theorem el87:elOf Tryz.prog 87=some (93,true,2,32,[Value.slice none 0 0,Value.int IntKind.u64 0]):=by kernel_rfl
@[simp] theorem ty88:tyOf Tryz.prog 88=some (false,1):=by kernel_rfl
@[simp] theorem el88:elOf Tryz.prog 88=some (3,false,1,8,[Value.int IntKind.i64 0]):=by kernel_rfl
@[simp] theorem ty91:tyOf Tryz.prog 91=some (false,1):=by kernel_rfl
@[simp] theorem ty93:tyOf Tryz.prog 93=some (true,2):=by kernel_rfl
@[simp] theorem zav93:zAV Tryz.prog 93 [Value.slice none 0 0,Value.int IntKind.u64 0]=[.nl 1,.lit (Value.int IntKind.u64 0)]:=by kernel_rfl
@[simp] theorem z93:zeroOf Tryz.prog 93=some [Value.slice none 0 0,Value.int IntKind.u64 0]:=by kernel_rfl
@[simp] theorem fld93_0:fldOf Tryz.prog 93 0=some (0,false,1):=by kernel_rfl
@[simp] theorem fld93_1:fldOf Tryz.prog 93 1=some (1,false,1):=by kernel_rfl
@[simp] theorem pl93:placesOf Tryz.prog 93=some [(0,1),(1,1)]:=by kernel_rfl
@[simp] theorem el94:elOf Tryz.prog 94=some (4,false,1,1,[Value.bool false]):=by kernel_rfl
@[simp] theorem ty114:tyOf Tryz.prog 114=some (false,1):=by kernel_rfl
@[simp] theorem ty135:tyOf Tryz.prog 135=some (false,1):=by kernel_rfl
@[simp] theorem by135:bytT Tryz.prog 135=some 5:=by kernel_rfl
@[simp] theorem zav137:zAV Tryz.prog 137 [Value.pointer none,Value.slice none 0 0]=[.lit (Value.pointer none),.nl 1]:=by kernel_rfl
@[simp] theorem z137:zeroOf Tryz.prog 137=some [Value.pointer none,Value.slice none 0 0]:=by kernel_rfl
@[simp] theorem fld137_1:fldOf Tryz.prog 137 1=some (1,false,1):=by kernel_rfl
@[simp] theorem pt159:ptT Tryz.prog 159=some 5:=by kernel_rfl
@[simp] theorem el163:elOf Tryz.prog 163=some (9,false,1,16,[Value.string {data:=#[]}]):=by kernel_rfl
@[simp] theorem zv4:zeroV Tryz.prog 4=some (Value.bool false):=by kernel_rfl
end
end Go.Proofs.YtdaonnnlgfhlaaaGreatDoor
