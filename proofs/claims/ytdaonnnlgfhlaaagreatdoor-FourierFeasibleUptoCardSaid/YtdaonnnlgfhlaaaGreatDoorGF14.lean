import Derived.Test.YtdaonnnlgfhlaaaGreatDoorGF13
import Derived.Test.YtdaonnnlgfhlaaaGreatDoorProg
import Derived.KernelRfl
set_option linter.all false
namespace Go.Proofs.YtdaonnnlgfhlaaaGreatDoor
section
open Go.RowKit
@[simp] theorem ty3:QB Tryz.prog 3=some (false,1):=by kernel_rfl
@[simp] theorem ZDM:zAV Tryz.prog 3 [Value.int IntKind.i64 0]=[.lit (Value.int IntKind.i64 0)]:=by kernel_rfl
@[simp] theorem in3:Zua Tryz.prog 3=some .i64:=by kernel_rfl
@[simp] theorem ty4:QB Tryz.prog 4=some (false,1):=by kernel_rfl
@[simp] theorem ZDu:zAV Tryz.prog 4 [Value.bool false]=[.lit (Value.bool false)]:=by kernel_rfl
@[simp] theorem ty9:QB Tryz.prog 9=some (false,1):=by kernel_rfl
@[simp] theorem ZDQ:QB Tryz.prog 22=some (false,1):=by kernel_rfl
@[simp] theorem ZDs:X8 Tryz.prog 22=some (68,true,4,64,[Value.int IntKind.i64 0,Value.bool false,Value.slice none 0 0,Value.slice none 0 0]):=by kernel_rfl
@[simp] theorem ZDD:QB Tryz.prog 24=some (false,1):=by kernel_rfl
@[simp] theorem ZDN:X8 Tryz.prog 24=some (114,false,1,4,[Value.int IntKind.u32 0]):=by kernel_rfl
@[simp] theorem ZDO:QB Tryz.prog 26=some (true,3):=by kernel_rfl
@[simp] theorem ZC2:zAV Tryz.prog 26 [Value.bool false,Value.slice none 0 0,Value.slice none 0 0]=[.lit (Value.bool false),.nl 1,.nl 1]:=by kernel_rfl
@[simp] theorem z26:WT Tryz.prog 26=some [Value.bool false,Value.slice none 0 0,Value.slice none 0 0]:=by kernel_rfl
@[simp] theorem Zzb:Q6 Tryz.prog 26 0=some (0,false,1):=by kernel_rfl
@[simp] theorem Zz2:Q6 Tryz.prog 26 1=some (1,false,1):=by kernel_rfl
@[simp] theorem Zzg:Q6 Tryz.prog 26 2=some (2,false,1):=by kernel_rfl
@[simp] theorem ZDt:WB Tryz.prog 26=some [(0,1),(1,1),(2,1)]:=by kernel_rfl
@[simp] theorem ZDE:QB Tryz.prog 28=some (true,4):=by kernel_rfl
@[simp] theorem ZCG:zAV Tryz.prog 28 [Value.slice none 0 0,Value.bool false,Value.slice none 0 0,Value.slice none 0 0]=[.nl 4,.lit (Value.bool false),.nl 1,.nl 1]:=by kernel_rfl
@[simp] theorem z28:WT Tryz.prog 28=some [Value.slice none 0 0,Value.bool false,Value.slice none 0 0,Value.slice none 0 0]:=by kernel_rfl
@[simp] theorem Zzc:Q6 Tryz.prog 28 0=some (0,false,1):=by kernel_rfl
@[simp] theorem Zzu:Q6 Tryz.prog 28 1=some (1,true,3):=by kernel_rfl
@[simp] theorem ZDB:WB Tryz.prog 28=some [(0,1),(1,3)]:=by kernel_rfl
@[simp] theorem ZDx:QB Tryz.prog 40=some (false,1):=by kernel_rfl
@[simp] theorem ZDF:X8 Tryz.prog 40=some (28,true,4,80,[Value.slice none 0 0,Value.bool false,Value.slice none 0 0,Value.slice none 0 0]):=by kernel_rfl
@[simp] theorem ZB7:zAV Tryz.prog 61 [Value.int IntKind.i64 0,Value.slice none 0 0,Value.slice none 0 0,Value.bool false,Value.slice none 0 0,Value.slice none 0 0]=[.lit (Value.int IntKind.i64 0),.nl 4,.nl 4,.lit (Value.bool false),.nl 1,.nl 1]:=by kernel_rfl
@[simp] theorem z61:WT Tryz.prog 61=some [Value.int IntKind.i64 0,Value.slice none 0 0,Value.slice none 0 0,Value.bool false,Value.slice none 0 0,Value.slice none 0 0]:=by kernel_rfl
@[simp] theorem ZzD:Q6 Tryz.prog 61 0=some (0,false,1):=by kernel_rfl
@[simp] theorem Zzw:Q6 Tryz.prog 61 1=some (1,false,1):=by kernel_rfl
@[simp] theorem ZzC:Q6 Tryz.prog 61 2=some (2,true,4):=by kernel_rfl
@[simp] theorem ZDG:WB Tryz.prog 61=some [(0,1),(1,1),(2,4)]:=by kernel_rfl
@[simp] theorem ZDP:QB Tryz.prog 68=some (true,4):=by kernel_rfl
@[simp] theorem ZBw:zAV Tryz.prog 68 [Value.int IntKind.i64 0,Value.bool false,Value.slice none 0 0,Value.slice none 0 0]=[.lit (Value.int IntKind.i64 0),.lit (Value.bool false),.nl 1,.nl 1]:=by kernel_rfl
@[simp] theorem z68:WT Tryz.prog 68=some [Value.int IntKind.i64 0,Value.bool false,Value.slice none 0 0,Value.slice none 0 0]:=by kernel_rfl
@[simp] theorem ZAb:Q6 Tryz.prog 68 0=some (0,false,1):=by kernel_rfl
@[simp] theorem Zz9:Q6 Tryz.prog 68 1=some (1,true,3):=by kernel_rfl
@[simp] theorem ZDA:WB Tryz.prog 68=some [(0,1),(1,3)]:=by kernel_rfl
@[simp] theorem ZDn:QB Tryz.prog 74=some (true,2):=by kernel_rfl
@[simp] theorem ZCf:zAV Tryz.prog 74 [Value.bool false,Value.slice none 0 0]=[.lit (Value.bool false),.nl 1]:=by kernel_rfl
@[simp] theorem z74:WT Tryz.prog 74=some [Value.bool false,Value.slice none 0 0]:=by kernel_rfl
@[simp] theorem Zzd:Q6 Tryz.prog 74 1=some (1,false,1):=by kernel_rfl
@[simp] theorem ZDK:QB Tryz.prog 76=some (false,1):=by kernel_rfl
@[simp] theorem ZDl:ZlR Tryz.prog 76=some 4:=by kernel_rfl
@[simp] theorem ZC5:zAV Tryz.prog 78 [Value.slice none 0 0,Value.map none]=[.nl 4,.lit (Value.map none)]:=by kernel_rfl
@[simp] theorem z78:WT Tryz.prog 78=some [Value.slice none 0 0,Value.map none]:=by kernel_rfl
@[simp] theorem Zzj:Q6 Tryz.prog 78 0=some (0,false,1):=by kernel_rfl
@[simp] theorem Zzk:Q6 Tryz.prog 78 1=some (1,false,1):=by kernel_rfl
@[simp] theorem ZDH:WB Tryz.prog 78=some [(0,1),(1,1)]:=by kernel_rfl
@[simp] theorem ZDm:X8 Tryz.prog 87=some (93,true,2,32,[Value.slice none 0 0,Value.int IntKind.u64 0]):=by kernel_rfl
@[simp] theorem ZDp:QB Tryz.prog 88=some (false,1):=by kernel_rfl
@[simp] theorem ZDy:X8 Tryz.prog 88=some (3,false,1,8,[Value.int IntKind.i64 0]):=by kernel_rfl
@[simp] theorem ZDS:QB Tryz.prog 91=some (false,1):=by kernel_rfl
@[simp] theorem ZDR:QB Tryz.prog 93=some (true,2):=by kernel_rfl
@[simp] theorem ZCB:zAV Tryz.prog 93 [Value.slice none 0 0,Value.int IntKind.u64 0]=[.nl 1,.lit (Value.int IntKind.u64 0)]:=by kernel_rfl
@[simp] theorem z93:WT Tryz.prog 93=some [Value.slice none 0 0,Value.int IntKind.u64 0]:=by kernel_rfl
@[simp] theorem ZzW:Q6 Tryz.prog 93 0=some (0,false,1):=by kernel_rfl
@[simp] theorem Zzq:Q6 Tryz.prog 93 1=some (1,false,1):=by kernel_rfl
@[simp] theorem ZDz:WB Tryz.prog 93=some [(0,1),(1,1)]:=by kernel_rfl
@[simp] theorem ZDL:X8 Tryz.prog 94=some (4,false,1,1,[Value.bool false]):=by kernel_rfl
@[simp] theorem ZCQ:QB Tryz.prog 114=some (false,1):=by kernel_rfl
@[simp] theorem ZBK:QB Tryz.prog 135=some (false,1):=by kernel_rfl
@[simp] theorem ZDe:Zgv Tryz.prog 135=some 5:=by kernel_rfl
@[simp] theorem ZAp:zAV Tryz.prog 137 [Value.pointer none,Value.slice none 0 0]=[.lit (Value.pointer none),.nl 1]:=by kernel_rfl
@[simp] theorem ZDI:WT Tryz.prog 137=some [Value.pointer none,Value.slice none 0 0]:=by kernel_rfl
@[simp] theorem ZxB:Q6 Tryz.prog 137 1=some (1,false,1):=by kernel_rfl
@[simp] theorem ZCK:ptT Tryz.prog 159=some 5:=by kernel_rfl
@[simp] theorem ZB1:X8 Tryz.prog 163=some (9,false,1,16,[Value.string {data:=#[]}]):=by kernel_rfl
@[simp] theorem zv4:Zjx Tryz.prog 4=some (Value.bool false):=by kernel_rfl
end
end Go.Proofs.YtdaonnnlgfhlaaaGreatDoor
