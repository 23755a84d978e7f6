import Derived.Test.YtdaonnnlgfhlaaaGreatDoorGF13
import Derived.Test.YtdaonnnlgfhlaaaGreatDoorProg
import Derived.KernelRfl
set_option linter.all false
namespace Go.Proofs.YtdaonnnlgfhlaaaGreatDoor
section
open Go.RowKit
@[simp] theorem ty3:QE Tryz.prog 3=some (false,1):=by kernel_rfl
@[simp] theorem ZCz:zAV Tryz.prog 3 [Value.int IntKind.i64 0]=[.lit (Value.int IntKind.i64 0)]:=by kernel_rfl
@[simp] theorem in3:Zvn Tryz.prog 3=some .i64:=by kernel_rfl
@[simp] theorem ty4:QE Tryz.prog 4=some (false,1):=by kernel_rfl
@[simp] theorem ZCc:zAV Tryz.prog 4 [Value.bool false]=[.lit (Value.bool false)]:=by kernel_rfl
@[simp] theorem ty9:QE Tryz.prog 9=some (false,1):=by kernel_rfl
@[simp] theorem ZCH:QE Tryz.prog 22=some (false,1):=by kernel_rfl
@[simp] theorem ZCx:X7 Tryz.prog 22=some (68,true,4,64,[Value.int IntKind.i64 0,Value.bool false,Value.slice none 0 0,Value.slice none 0 0]):=by kernel_rfl
@[simp] theorem ZCs:QE Tryz.prog 24=some (false,1):=by kernel_rfl
@[simp] theorem ZCG:X7 Tryz.prog 24=some (114,false,1,4,[Value.int IntKind.u32 0]):=by kernel_rfl
@[simp] theorem ZCg:QE Tryz.prog 26=some (true,3):=by kernel_rfl
@[simp] theorem ZBk:zAV Tryz.prog 26 [Value.bool false,Value.slice none 0 0,Value.slice none 0 0]=[.lit (Value.bool false),.nl 1,.nl 1]:=by kernel_rfl
@[simp] theorem z26:WR Tryz.prog 26=some [Value.bool false,Value.slice none 0 0,Value.slice none 0 0]:=by kernel_rfl
@[simp] theorem ZzN:Q6 Tryz.prog 26 0=some (0,false,1):=by kernel_rfl
@[simp] theorem ZzP:Q6 Tryz.prog 26 1=some (1,false,1):=by kernel_rfl
@[simp] theorem ZzQ:Q6 Tryz.prog 26 2=some (2,false,1):=by kernel_rfl
@[simp] theorem ZCl:WN Tryz.prog 26=some [(0,1),(1,1),(2,1)]:=by kernel_rfl
@[simp] theorem ZCp:QE Tryz.prog 28=some (true,4):=by kernel_rfl
@[simp] theorem ZBq:zAV Tryz.prog 28 [Value.slice none 0 0,Value.bool false,Value.slice none 0 0,Value.slice none 0 0]=[.nl 4,.lit (Value.bool false),.nl 1,.nl 1]:=by kernel_rfl
@[simp] theorem z28:WR Tryz.prog 28=some [Value.slice none 0 0,Value.bool false,Value.slice none 0 0,Value.slice none 0 0]:=by kernel_rfl
@[simp] theorem Zy3:Q6 Tryz.prog 28 0=some (0,false,1):=by kernel_rfl
@[simp] theorem ZzF:Q6 Tryz.prog 28 1=some (1,true,3):=by kernel_rfl
@[simp] theorem ZCE:WN Tryz.prog 28=some [(0,1),(1,3)]:=by kernel_rfl
@[simp] theorem ZCr:QE Tryz.prog 40=some (false,1):=by kernel_rfl
@[simp] theorem ZCm:X7 Tryz.prog 40=some (28,true,4,80,[Value.slice none 0 0,Value.bool false,Value.slice none 0 0,Value.slice none 0 0]):=by kernel_rfl
@[simp] theorem ZBs:zAV Tryz.prog 61 [Value.int IntKind.i64 0,Value.slice none 0 0,Value.slice none 0 0,Value.bool false,Value.slice none 0 0,Value.slice none 0 0]=[.lit (Value.int IntKind.i64 0),.nl 4,.nl 4,.lit (Value.bool false),.nl 1,.nl 1]:=by kernel_rfl
@[simp] theorem z61:WR Tryz.prog 61=some [Value.int IntKind.i64 0,Value.slice none 0 0,Value.slice none 0 0,Value.bool false,Value.slice none 0 0,Value.slice none 0 0]:=by kernel_rfl
@[simp] theorem Zy9:Q6 Tryz.prog 61 0=some (0,false,1):=by kernel_rfl
@[simp] theorem Zz6:Q6 Tryz.prog 61 1=some (1,false,1):=by kernel_rfl
@[simp] theorem ZzX:Q6 Tryz.prog 61 2=some (2,true,4):=by kernel_rfl
@[simp] theorem ZCo:WN Tryz.prog 61=some [(0,1),(1,1),(2,4)]:=by kernel_rfl
@[simp] theorem ZCB:QE Tryz.prog 68=some (true,4):=by kernel_rfl
@[simp] theorem ZBu:zAV Tryz.prog 68 [Value.int IntKind.i64 0,Value.bool false,Value.slice none 0 0,Value.slice none 0 0]=[.lit (Value.int IntKind.i64 0),.lit (Value.bool false),.nl 1,.nl 1]:=by kernel_rfl
@[simp] theorem z68:WR Tryz.prog 68=some [Value.int IntKind.i64 0,Value.bool false,Value.slice none 0 0,Value.slice none 0 0]:=by kernel_rfl
@[simp] theorem ZzC:Q6 Tryz.prog 68 0=some (0,false,1):=by kernel_rfl
@[simp] theorem ZzR:Q6 Tryz.prog 68 1=some (1,true,3):=by kernel_rfl
@[simp] theorem ZCf:WN Tryz.prog 68=some [(0,1),(1,3)]:=by kernel_rfl
@[simp] theorem ZCF:QE Tryz.prog 74=some (true,2):=by kernel_rfl
@[simp] theorem ZBE:zAV Tryz.prog 74 [Value.bool false,Value.slice none 0 0]=[.lit (Value.bool false),.nl 1]:=by kernel_rfl
@[simp] theorem z74:WR Tryz.prog 74=some [Value.bool false,Value.slice none 0 0]:=by kernel_rfl
@[simp] theorem Zzx:Q6 Tryz.prog 74 1=some (1,false,1):=by kernel_rfl
@[simp] theorem ZCk:QE Tryz.prog 76=some (false,1):=by kernel_rfl
@[simp] theorem ZCA:ZjZ Tryz.prog 76=some 4:=by kernel_rfl
@[simp] theorem ZBM:zAV Tryz.prog 78 [Value.slice none 0 0,Value.map none]=[.nl 4,.lit (Value.map none)]:=by kernel_rfl
@[simp] theorem z78:WR Tryz.prog 78=some [Value.slice none 0 0,Value.map none]:=by kernel_rfl
@[simp] theorem ZzH:Q6 Tryz.prog 78 0=some (0,false,1):=by kernel_rfl
@[simp] theorem Zzr:Q6 Tryz.prog 78 1=some (1,false,1):=by kernel_rfl
@[simp] theorem ZCd:WN Tryz.prog 78=some [(0,1),(1,1)]:=by kernel_rfl
@[simp] theorem ZCh:X7 Tryz.prog 87=some (93,true,2,32,[Value.slice none 0 0,Value.int IntKind.u64 0]):=by kernel_rfl
@[simp] theorem ZCn:QE Tryz.prog 88=some (false,1):=by kernel_rfl
@[simp] theorem ZCq:X7 Tryz.prog 88=some (3,false,1,8,[Value.int IntKind.i64 0]):=by kernel_rfl
@[simp] theorem ZCj:QE Tryz.prog 91=some (false,1):=by kernel_rfl
@[simp] theorem ZCw:QE Tryz.prog 93=some (true,2):=by kernel_rfl
@[simp] theorem ZBd:zAV Tryz.prog 93 [Value.slice none 0 0,Value.int IntKind.u64 0]=[.nl 1,.lit (Value.int IntKind.u64 0)]:=by kernel_rfl
@[simp] theorem z93:WR Tryz.prog 93=some [Value.slice none 0 0,Value.int IntKind.u64 0]:=by kernel_rfl
@[simp] theorem ZzD:Q6 Tryz.prog 93 0=some (0,false,1):=by kernel_rfl
@[simp] theorem ZzU:Q6 Tryz.prog 93 1=some (1,false,1):=by kernel_rfl
@[simp] theorem ZCv:WN Tryz.prog 93=some [(0,1),(1,1)]:=by kernel_rfl
@[simp] theorem ZCe:X7 Tryz.prog 94=some (4,false,1,1,[Value.bool false]):=by kernel_rfl
@[simp] theorem ZBc:QE Tryz.prog 114=some (false,1):=by kernel_rfl
@[simp] theorem ZBb:QE Tryz.prog 135=some (false,1):=by kernel_rfl
@[simp] theorem ZBv:Zfz Tryz.prog 135=some 5:=by kernel_rfl
@[simp] theorem ZAM:zAV Tryz.prog 137 [Value.pointer none,Value.slice none 0 0]=[.lit (Value.pointer none),.nl 1]:=by kernel_rfl
@[simp] theorem ZCt:WR Tryz.prog 137=some [Value.pointer none,Value.slice none 0 0]:=by kernel_rfl
@[simp] theorem ZxH:Q6 Tryz.prog 137 1=some (1,false,1):=by kernel_rfl
@[simp] theorem ZBS:ptT Tryz.prog 159=some 5:=by kernel_rfl
@[simp] theorem ZB0:X7 Tryz.prog 163=some (9,false,1,16,[Value.string {data:=#[]}]):=by kernel_rfl
@[simp] theorem zv4:Zip Tryz.prog 4=some (Value.bool false):=by kernel_rfl
end
end Go.Proofs.YtdaonnnlgfhlaaaGreatDoor
