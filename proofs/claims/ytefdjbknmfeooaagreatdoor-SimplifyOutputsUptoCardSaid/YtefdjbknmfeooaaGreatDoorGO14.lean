import Derived.Test.YtefdjbknmfeooaaGreatDoorGO13
import Derived.Test.YtefdjbknmfeooaaGreatDoorProg
import Derived.KernelRfl
set_option linter.all false
namespace Go.Proofs.YtefdjbknmfeooaaGreatDoor
open Go.RowKit
@[simp] theorem ty3:tyOf Tryz.prog 3=some (false,1):=by kernel_rfl
@[simp] theorem ty4:tyOf Tryz.prog 4=some (false,1):=by kernel_rfl
@[simp] theorem zav4:zAV Tryz.prog 4 [Value.bool false]=[.lit (Value.bool false)]:=by kernel_rfl
@[simp] theorem ty9:tyOf Tryz.prog 9=some (false,1):=by kernel_rfl
@[simp] theorem ty22:tyOf Tryz.prog 22=some (false,1):=by kernel_rfl
@[simp] theorem el22:elOf Tryz.prog 22=some (45,true,4,80,[Value.slice none 0 0,Value.bool false,Value.slice none 0 0,Value.slice none 0 0]):=by kernel_rfl
@[simp] theorem ty24:tyOf Tryz.prog 24=some (true,3):=by kernel_rfl
@[simp] theorem zav24:zAV Tryz.prog 24 [Value.int IntKind.i64 0,Value.slice none 0 0,Value.slice none 0 0]=[.lit (Value.int IntKind.i64 0),.nl 4,.nl 4]:=by kernel_rfl
@[simp] theorem z24:zeroOf Tryz.prog 24=some [Value.int IntKind.i64 0,Value.slice none 0 0,Value.slice none 0 0]:=by kernel_rfl
@[simp] theorem fld24_0:fldOf Tryz.prog 24 0=some (0,false,1):=by kernel_rfl
@[simp] theorem fld24_1:fldOf Tryz.prog 24 1=some (1,false,1):=by kernel_rfl
@[simp] theorem fld24_2:fldOf Tryz.prog 24 2=some (2,false,1):=by kernel_rfl
@[simp] theorem pl24:placesOf Tryz.prog 24=some [(0,1),(1,1),(2,1)]:=by kernel_rfl
@[simp] theorem ty28:tyOf Tryz.prog 28=some (false,1):=by kernel_rfl
@[simp] theorem el29:elOf Tryz.prog 29=some (34,true,3,56,[Value.bool false,Value.slice none 0 0,Value.slice none 0 0]):=by kernel_rfl
@[simp] theorem ty32:tyOf Tryz.prog 32=some (false,1):=by kernel_rfl
@[simp] theorem el32:elOf Tryz.prog 32=some (114,false,1,4,[Value.int IntKind.u32 0]):=by kernel_rfl
@[simp] theorem ty34:tyOf Tryz.prog 34=some (true,3):=by kernel_rfl
@[simp] theorem zav34:zAV Tryz.prog 34 [Value.bool false,Value.slice none 0 0,Value.slice none 0 0]=[.lit (Value.bool false),.nl 1,.nl 1]:=by kernel_rfl
@[simp] theorem z34:zeroOf Tryz.prog 34=some [Value.bool false,Value.slice none 0 0,Value.slice none 0 0]:=by kernel_rfl
@[simp] theorem fld34_0:fldOf Tryz.prog 34 0=some (0,false,1):=by kernel_rfl
@[simp] theorem fld34_1:fldOf Tryz.prog 34 1=some (1,false,1):=by kernel_rfl
@[simp] theorem fld34_2:fldOf Tryz.prog 34 2=some (2,false,1):=by kernel_rfl
@[simp] theorem pl34:placesOf Tryz.prog 34=some [(0,1),(1,1),(2,1)]:=by kernel_rfl
@[simp] theorem el38:elOf Tryz.prog 38=some (24,true,3,56,[Value.int IntKind.i64 0,Value.slice none 0 0,Value.slice none 0 0]):=by kernel_rfl
@[simp] theorem ty41:tyOf Tryz.prog 41=some (false,1):=by kernel_rfl
@[simp] theorem zav41:zAV Tryz.prog 41 [Value.slice none 0 0]=[.nl 1]:=by kernel_rfl
@[simp] theorem z41:zeroOf Tryz.prog 41=some [Value.slice none 0 0]:=by kernel_rfl
@[simp] theorem el41:elOf Tryz.prog 41=some (4,false,1,1,[Value.bool false]):=by kernel_rfl
@[simp] theorem ty43:tyOf Tryz.prog 43=some (false,1):=by kernel_rfl
@[simp] theorem el43:elOf Tryz.prog 43=some (57,true,4,64,[Value.int IntKind.i64 0,Value.bool false,Value.slice none 0 0,Value.slice none 0 0]):=by kernel_rfl
@[simp] theorem ty45:tyOf Tryz.prog 45=some (true,4):=by kernel_rfl
@[simp] theorem zav45:zAV Tryz.prog 45 [Value.slice none 0 0,Value.bool false,Value.slice none 0 0,Value.slice none 0 0]=[.nl 4,.lit (Value.bool false),.nl 1,.nl 1]:=by kernel_rfl
@[simp] theorem z45:zeroOf Tryz.prog 45=some [Value.slice none 0 0,Value.bool false,Value.slice none 0 0,Value.slice none 0 0]:=by kernel_rfl
@[simp] theorem fld45_0:fldOf Tryz.prog 45 0=some (0,false,1):=by kernel_rfl
@[simp] theorem fld45_1:fldOf Tryz.prog 45 1=some (1,true,3):=by kernel_rfl
@[simp] theorem pl45:placesOf Tryz.prog 45=some [(0,1),(1,3)]:=by kernel_rfl
@[simp] theorem ty57:tyOf Tryz.prog 57=some (true,4):=by kernel_rfl
@[simp] theorem zav57:zAV Tryz.prog 57 [Value.int IntKind.i64 0,Value.bool false,Value.slice none 0 0,Value.slice none 0 0]=[.lit (Value.int IntKind.i64 0),.lit (Value.bool false),.nl 1,.nl 1]:=by kernel_rfl
@[simp] theorem z57:zeroOf Tryz.prog 57=some [Value.int IntKind.i64 0,Value.bool false,Value.slice none 0 0,Value.slice none 0 0]:=by kernel_rfl
@[simp] theorem fld57_0:fldOf Tryz.prog 57 0=some (0,false,1):=by kernel_rfl
@[simp] theorem fld57_1:fldOf Tryz.prog 57 1=some (1,true,3):=by kernel_rfl
@[simp] theorem pl57:placesOf Tryz.prog 57=some [(0,1),(1,3)]:=by kernel_rfl
@[simp] theorem ty66:tyOf Tryz.prog 66=some (true,2):=by kernel_rfl
@[simp] theorem zav66:zAV Tryz.prog 66 [Value.bool false,Value.slice none 0 0]=[.lit (Value.bool false),.nl 1]:=by kernel_rfl
@[simp] theorem z66:zeroOf Tryz.prog 66=some [Value.bool false,Value.slice none 0 0]:=by kernel_rfl
@[simp] theorem fld66_1:fldOf Tryz.prog 66 1=some (1,false,1):=by kernel_rfl
@[simp] theorem el72:elOf Tryz.prog 72=some (28,false,1,8,[Value.nilFunc]):=by kernel_rfl
@[simp] theorem mt73:mapT Tryz.prog 73=some 3:=by kernel_rfl
@[simp] theorem ty76:tyOf Tryz.prog 76=some (false,1):=by kernel_rfl
@[simp] theorem zav76:zAV Tryz.prog 76 [Value.nilFunc]=[.lit (Value.nilFunc)]:=by kernel_rfl
@[simp] theorem z76:zeroOf Tryz.prog 76=some [Value.nilFunc]:=by kernel_rfl
@[simp] theorem ty98:tyOf Tryz.prog 98=some (false,1):=by kernel_rfl
@[simp] theorem by98:bytT Tryz.prog 98=some 5:=by kernel_rfl
@[simp] theorem zav100:zAV Tryz.prog 100 [Value.pointer none,Value.slice none 0 0]=[.lit (Value.pointer none),.nl 1]:=by kernel_rfl
@[simp] theorem z100:zeroOf Tryz.prog 100=some [Value.pointer none,Value.slice none 0 0]:=by kernel_rfl
@[simp] theorem fld100_1:fldOf Tryz.prog 100 1=some (1,false,1):=by kernel_rfl
@[simp] theorem ty114:tyOf Tryz.prog 114=some (false,1):=by kernel_rfl
@[simp] theorem pt130:ptT Tryz.prog 130=some 5:=by kernel_rfl
@[simp] theorem el144:elOf Tryz.prog 144=some (9,false,1,16,[Value.string {data:=#[]}]):=by kernel_rfl
@[simp] theorem zv3:zeroV Tryz.prog 3=some (Value.int IntKind.i64 0):=by kernel_rfl
end Go.Proofs.YtefdjbknmfeooaaGreatDoor
