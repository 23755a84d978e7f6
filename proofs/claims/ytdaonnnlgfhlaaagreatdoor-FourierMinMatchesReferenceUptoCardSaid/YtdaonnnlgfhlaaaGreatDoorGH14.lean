import Derived.Test.YtdaonnnlgfhlaaaGreatDoorGH13
import Derived.Test.YtdaonnnlgfhlaaaGreatDoorProg
import Derived.KernelRfl
set_option linter.all false
namespace Go.Proofs.YtdaonnnlgfhlaaaGreatDoor
open Go.RowKit
@[simp] theorem ty3:QO Tryz.prog 3=some (false,1):=by kernel_rfl
@[simp] theorem ZD2:zAV Tryz.prog 3 [Value.int IntKind.i64 0]=[.lit (Value.int IntKind.i64 0)]:=by kernel_rfl
@[simp] theorem in3:Zxz Tryz.prog 3=some .i64:=by kernel_rfl
@[simp] theorem ty4:QO Tryz.prog 4=some (false,1):=by kernel_rfl
@[simp] theorem ZEc:zAV Tryz.prog 4 [Value.bool false]=[.lit (Value.bool false)]:=by kernel_rfl
@[simp] theorem ty9:QO Tryz.prog 9=some (false,1):=by kernel_rfl
@[simp] theorem ZEl:QO Tryz.prog 22=some (false,1):=by kernel_rfl
@[simp] theorem ZDT:Wn Tryz.prog 22=some (68,true,4,64,[Value.int IntKind.i64 0,Value.bool false,Value.slice none 0 0,Value.slice none 0 0]):=by kernel_rfl
@[simp] theorem ZDV:QO Tryz.prog 24=some (false,1):=by kernel_rfl
@[simp] theorem ZEj:Wn Tryz.prog 24=some (114,false,1,4,[Value.int IntKind.u32 0]):=by kernel_rfl
@[simp] theorem ZEi:QO Tryz.prog 26=some (true,3):=by kernel_rfl
@[simp] theorem ZC1:zAV Tryz.prog 26 [Value.bool false,Value.slice none 0 0,Value.slice none 0 0]=[.lit (Value.bool false),.nl 1,.nl 1]:=by kernel_rfl
@[simp] theorem z26:Vd Tryz.prog 26=some [Value.bool false,Value.slice none 0 0,Value.slice none 0 0]:=by kernel_rfl
@[simp] theorem ZAQ:Xh Tryz.prog 26 0=some (0,false,1):=by kernel_rfl
@[simp] theorem ZAF:Xh Tryz.prog 26 1=some (1,false,1):=by kernel_rfl
@[simp] theorem ZBm:Xh Tryz.prog 26 2=some (2,false,1):=by kernel_rfl
@[simp] theorem ZDY:WV Tryz.prog 26=some [(0,1),(1,1),(2,1)]:=by kernel_rfl
@[simp] theorem ZD0:QO Tryz.prog 28=some (true,4):=by kernel_rfl
@[simp] theorem ZC3:zAV Tryz.prog 28 [Value.slice none 0 0,Value.bool false,Value.slice none 0 0,Value.slice none 0 0]=[.nl 4,.lit (Value.bool false),.nl 1,.nl 1]:=by kernel_rfl
@[simp] theorem z28:Vd Tryz.prog 28=some [Value.slice none 0 0,Value.bool false,Value.slice none 0 0,Value.slice none 0 0]:=by kernel_rfl
@[simp] theorem ZA3:Xh Tryz.prog 28 0=some (0,false,1):=by kernel_rfl
@[simp] theorem ZBJ:Xh Tryz.prog 28 1=some (1,true,3):=by kernel_rfl
@[simp] theorem ZEd:WV Tryz.prog 28=some [(0,1),(1,3)]:=by kernel_rfl
@[simp] theorem ZEm:QO Tryz.prog 40=some (false,1):=by kernel_rfl
@[simp] theorem ZEk:Wn Tryz.prog 40=some (28,true,4,80,[Value.slice none 0 0,Value.bool false,Value.slice none 0 0,Value.slice none 0 0]):=by kernel_rfl
@[simp] theorem ZDp:zAV Tryz.prog 61 [Value.int IntKind.i64 0,Value.slice none 0 0,Value.slice none 0 0,Value.bool false,Value.slice none 0 0,Value.slice none 0 0]=[.lit (Value.int IntKind.i64 0),.nl 4,.nl 4,.lit (Value.bool false),.nl 1,.nl 1]:=by kernel_rfl
@[simp] theorem z61:Vd Tryz.prog 61=some [Value.int IntKind.i64 0,Value.slice none 0 0,Value.slice none 0 0,Value.bool false,Value.slice none 0 0,Value.slice none 0 0]:=by kernel_rfl
@[simp] theorem ZAH:Xh Tryz.prog 61 0=some (0,false,1):=by kernel_rfl
@[simp] theorem ZA2:Xh Tryz.prog 61 1=some (1,false,1):=by kernel_rfl
@[simp] theorem ZBw:Xh Tryz.prog 61 2=some (2,true,4):=by kernel_rfl
@[simp] theorem ZD6:WV Tryz.prog 61=some [(0,1),(1,1),(2,4)]:=by kernel_rfl
@[simp] theorem ZD9:QO Tryz.prog 68=some (true,4):=by kernel_rfl
@[simp] theorem ZDD:zAV Tryz.prog 68 [Value.int IntKind.i64 0,Value.bool false,Value.slice none 0 0,Value.slice none 0 0]=[.lit (Value.int IntKind.i64 0),.lit (Value.bool false),.nl 1,.nl 1]:=by kernel_rfl
@[simp] theorem z68:Vd Tryz.prog 68=some [Value.int IntKind.i64 0,Value.bool false,Value.slice none 0 0,Value.slice none 0 0]:=by kernel_rfl
@[simp] theorem ZBk:Xh Tryz.prog 68 0=some (0,false,1):=by kernel_rfl
@[simp] theorem ZBx:Xh Tryz.prog 68 1=some (1,true,3):=by kernel_rfl
@[simp] theorem ZEb:WV Tryz.prog 68=some [(0,1),(1,3)]:=by kernel_rfl
@[simp] theorem ZEn:QO Tryz.prog 74=some (true,2):=by kernel_rfl
@[simp] theorem ZCV:zAV Tryz.prog 74 [Value.bool false,Value.slice none 0 0]=[.lit (Value.bool false),.nl 1]:=by kernel_rfl
@[simp] theorem z74:Vd Tryz.prog 74=some [Value.bool false,Value.slice none 0 0]:=by kernel_rfl
@[simp] theorem ZAR:Xh Tryz.prog 74 1=some (1,false,1):=by kernel_rfl
@[simp] theorem ZD7:QO Tryz.prog 76=some (false,1):=by kernel_rfl
@[simp] theorem ZEh:ZkP Tryz.prog 76=some 4:=by kernel_rfl
@[simp] theorem ZDG:zAV Tryz.prog 78 [Value.slice none 0 0,Value.map none]=[.nl 4,.lit (Value.map none)]:=by kernel_rfl
@[simp] theorem z78:Vd Tryz.prog 78=some [Value.slice none 0 0,Value.map none]:=by kernel_rfl
@[simp] theorem ZBu:Xh Tryz.prog 78 0=some (0,false,1):=by kernel_rfl
@[simp] theorem ZAZ:Xh Tryz.prog 78 1=some (1,false,1):=by kernel_rfl
@[simp] theorem ZDX:WV Tryz.prog 78=some [(0,1),(1,1)]:=by kernel_rfl
@[simp] theorem ZD4:Wn Tryz.prog 87=some (93,true,2,32,[Value.slice none 0 0,Value.int IntKind.u64 0]):=by kernel_rfl
@[simp] theorem ZEo:QO Tryz.prog 88=some (false,1):=by kernel_rfl
@[simp] theorem ZEa:Wn Tryz.prog 88=some (3,false,1,8,[Value.int IntKind.i64 0]):=by kernel_rfl
@[simp] theorem ZEe:QO Tryz.prog 91=some (false,1):=by kernel_rfl
@[simp] theorem ZD8:QO Tryz.prog 93=some (true,2):=by kernel_rfl
@[simp] theorem ZCS:zAV Tryz.prog 93 [Value.slice none 0 0,Value.int IntKind.u64 0]=[.nl 1,.lit (Value.int IntKind.u64 0)]:=by kernel_rfl
@[simp] theorem z93:Vd Tryz.prog 93=some [Value.slice none 0 0,Value.int IntKind.u64 0]:=by kernel_rfl
@[simp] theorem ZBt:Xh Tryz.prog 93 0=some (0,false,1):=by kernel_rfl
@[simp] theorem ZBl:Xh Tryz.prog 93 1=some (1,false,1):=by kernel_rfl
@[simp] theorem ZD5:WV Tryz.prog 93=some [(0,1),(1,1)]:=by kernel_rfl
@[simp] theorem ZEf:Wn Tryz.prog 94=some (4,false,1,1,[Value.bool false]):=by kernel_rfl
@[simp] theorem ZDg:QO Tryz.prog 114=some (false,1):=by kernel_rfl
@[simp] theorem ZDu:QO Tryz.prog 135=some (false,1):=by kernel_rfl
@[simp] theorem ZCP:Zg2 Tryz.prog 135=some 5:=by kernel_rfl
@[simp] theorem ZCg:zAV Tryz.prog 137 [Value.pointer none,Value.slice none 0 0]=[.lit (Value.pointer none),.nl 1]:=by kernel_rfl
@[simp] theorem ZDW:Vd Tryz.prog 137=some [Value.pointer none,Value.slice none 0 0]:=by kernel_rfl
@[simp] theorem ZzT:Xh Tryz.prog 137 1=some (1,false,1):=by kernel_rfl
@[simp] theorem ZC5:ptT Tryz.prog 159=some 5:=by kernel_rfl
@[simp] theorem ZDH:Wn Tryz.prog 163=some (9,false,1,16,[Value.string {data:=#[]}]):=by kernel_rfl
@[simp] theorem zv4:ZjF Tryz.prog 4=some (Value.bool false):=by kernel_rfl
end Go.Proofs.YtdaonnnlgfhlaaaGreatDoor
