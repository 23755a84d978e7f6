import Derived.Test.YtdaonnnlgfhlaaaGreatDoorGF13
import Derived.Test.YtdaonnnlgfhlaaaGreatDoorProg
import Derived.KernelRfl
set_option linter.all false
namespace Go.Proofs.YtdaonnnlgfhlaaaGreatDoor
section
open Go.RowKit
@[simp] theorem ty3:QE Tryz.prog 3=some (false,1):=by kernel_rfl
@[simp] theorem ZCq:zAV Tryz.prog 3 [Value.int IntKind.i64 0]=[.lit (Value.int IntKind.i64 0)]:=by kernel_rfl
@[simp] theorem in3:Zv1 Tryz.prog 3=some .i64:=by kernel_rfl
@[simp] theorem ty4:QE Tryz.prog 4=some (false,1):=by kernel_rfl
@[simp] theorem ZCn:zAV Tryz.prog 4 [Value.bool false]=[.lit (Value.bool false)]:=by kernel_rfl
@[simp] theorem ty9:QE Tryz.prog 9=some (false,1):=by kernel_rfl
@[simp] theorem ZCh:QE Tryz.prog 22=some (false,1):=by kernel_rfl
@[simp] theorem ZCv:Wa Tryz.prog 22=some (68,true,4,64,[Value.int IntKind.i64 0,Value.bool false,Value.slice none 0 0,Value.slice none 0 0]):=by kernel_rfl
@[simp] theorem ZCj:QE Tryz.prog 24=some (false,1):=by kernel_rfl
@[simp] theorem ZCH:Wa Tryz.prog 24=some (114,false,1,4,[Value.int IntKind.u32 0]):=by kernel_rfl
@[simp] theorem ZCG:QE Tryz.prog 26=some (true,3):=by kernel_rfl
@[simp] theorem ZB5:zAV Tryz.prog 26 [Value.bool false,Value.slice none 0 0,Value.slice none 0 0]=[.lit (Value.bool false),.nl 1,.nl 1]:=by kernel_rfl
@[simp] theorem z26:WS Tryz.prog 26=some [Value.bool false,Value.slice none 0 0,Value.slice none 0 0]:=by kernel_rfl
@[simp] theorem Zzf:Q6 Tryz.prog 26 0=some (0,false,1):=by kernel_rfl
@[simp] theorem Zze:Q6 Tryz.prog 26 1=some (1,false,1):=by kernel_rfl
@[simp] theorem ZzW:Q6 Tryz.prog 26 2=some (2,false,1):=by kernel_rfl
@[simp] theorem ZCd:WL Tryz.prog 26=some [(0,1),(1,1),(2,1)]:=by kernel_rfl
@[simp] theorem ZCF:QE Tryz.prog 28=some (true,4):=by kernel_rfl
@[simp] theorem ZB0:zAV Tryz.prog 28 [Value.slice none 0 0,Value.bool false,Value.slice none 0 0,Value.slice none 0 0]=[.nl 4,.lit (Value.bool false),.nl 1,.nl 1]:=by kernel_rfl
@[simp] theorem z28:WS Tryz.prog 28=some [Value.slice none 0 0,Value.bool false,Value.slice none 0 0,Value.slice none 0 0]:=by kernel_rfl
@[simp] theorem Zz2:Q6 Tryz.prog 28 0=some (0,false,1):=by kernel_rfl
@[simp] theorem ZzU:Q6 Tryz.prog 28 1=some (1,true,3):=by kernel_rfl
@[simp] theorem ZCo:WL Tryz.prog 28=some [(0,1),(1,3)]:=by kernel_rfl
@[simp] theorem ZCD:QE Tryz.prog 40=some (false,1):=by kernel_rfl
@[simp] theorem ZCl:Wa Tryz.prog 40=some (28,true,4,80,[Value.slice none 0 0,Value.bool false,Value.slice none 0 0,Value.slice none 0 0]):=by kernel_rfl
@[simp] theorem ZBs:zAV Tryz.prog 61 [Value.int IntKind.i64 0,Value.slice none 0 0,Value.slice none 0 0,Value.bool false,Value.slice none 0 0,Value.slice none 0 0]=[.lit (Value.int IntKind.i64 0),.nl 4,.nl 4,.lit (Value.bool false),.nl 1,.nl 1]:=by kernel_rfl
@[simp] theorem z61:WS Tryz.prog 61=some [Value.int IntKind.i64 0,Value.slice none 0 0,Value.slice none 0 0,Value.bool false,Value.slice none 0 0,Value.slice none 0 0]:=by kernel_rfl
@[simp] theorem Zzo:Q6 Tryz.prog 61 0=some (0,false,1):=by kernel_rfl
@[simp] theorem ZAe:Q6 Tryz.prog 61 1=some (1,false,1):=by kernel_rfl
@[simp] theorem Zza:Q6 Tryz.prog 61 2=some (2,true,4):=by kernel_rfl
@[simp] theorem ZCk:WL Tryz.prog 61=some [(0,1),(1,1),(2,4)]:=by kernel_rfl
@[simp] theorem ZCw:QE Tryz.prog 68=some (true,4):=by kernel_rfl
@[simp] theorem ZBy:zAV Tryz.prog 68 [Value.int IntKind.i64 0,Value.bool false,Value.slice none 0 0,Value.slice none 0 0]=[.lit (Value.int IntKind.i64 0),.lit (Value.bool false),.nl 1,.nl 1]:=by kernel_rfl
@[simp] theorem z68:WS Tryz.prog 68=some [Value.int IntKind.i64 0,Value.bool false,Value.slice none 0 0,Value.slice none 0 0]:=by kernel_rfl
@[simp] theorem Zz3:Q6 Tryz.prog 68 0=some (0,false,1):=by kernel_rfl
@[simp] theorem Zzg:Q6 Tryz.prog 68 1=some (1,true,3):=by kernel_rfl
@[simp] theorem ZCE:WL Tryz.prog 68=some [(0,1),(1,3)]:=by kernel_rfl
@[simp] theorem ZCe:QE Tryz.prog 74=some (true,2):=by kernel_rfl
@[simp] theorem ZBl:zAV Tryz.prog 74 [Value.bool false,Value.slice none 0 0]=[.lit (Value.bool false),.nl 1]:=by kernel_rfl
@[simp] theorem z74:WS Tryz.prog 74=some [Value.bool false,Value.slice none 0 0]:=by kernel_rfl
@[simp] theorem ZzT:Q6 Tryz.prog 74 1=some (1,false,1):=by kernel_rfl
@[simp] theorem ZCs:QE Tryz.prog 76=some (false,1):=by kernel_rfl
@[simp] theorem ZCp:Zkt Tryz.prog 76=some 4:=by kernel_rfl
@[simp] theorem ZBR:zAV Tryz.prog 78 [Value.slice none 0 0,Value.map none]=[.nl 4,.lit (Value.map none)]:=by kernel_rfl
@[simp] theorem z78:WS Tryz.prog 78=some [Value.slice none 0 0,Value.map none]:=by kernel_rfl
@[simp] theorem ZzD:Q6 Tryz.prog 78 0=some (0,false,1):=by kernel_rfl
@[simp] theorem ZzP:Q6 Tryz.prog 78 1=some (1,false,1):=by kernel_rfl
@[simp] theorem ZCc:WL Tryz.prog 78=some [(0,1),(1,1)]:=by kernel_rfl
@[simp] theorem ZCm:Wa Tryz.prog 87=some (93,true,2,32,[Value.slice none 0 0,Value.int IntKind.u64 0]):=by kernel_rfl
@[simp] theorem ZCf:QE Tryz.prog 88=some (false,1):=by kernel_rfl
@[simp] theorem ZCz:Wa Tryz.prog 88=some (3,false,1,8,[Value.int IntKind.i64 0]):=by kernel_rfl
@[simp] theorem ZCr:QE Tryz.prog 91=some (false,1):=by kernel_rfl
@[simp] theorem ZCx:QE Tryz.prog 93=some (true,2):=by kernel_rfl
@[simp] theorem ZBx:zAV Tryz.prog 93 [Value.slice none 0 0,Value.int IntKind.u64 0]=[.nl 1,.lit (Value.int IntKind.u64 0)]:=by kernel_rfl
@[simp] theorem z93:WS Tryz.prog 93=some [Value.slice none 0 0,Value.int IntKind.u64 0]:=by kernel_rfl
@[simp] theorem ZAf:Q6 Tryz.prog 93 0=some (0,false,1):=by kernel_rfl
@[simp] theorem Zy6:Q6 Tryz.prog 93 1=some (1,false,1):=by kernel_rfl
@[simp] theorem ZCu:WL Tryz.prog 93=some [(0,1),(1,1)]:=by kernel_rfl
@[simp] theorem ZCt:Wa Tryz.prog 94=some (4,false,1,1,[Value.bool false]):=by kernel_rfl
@[simp] theorem ZBN:QE Tryz.prog 114=some (false,1):=by kernel_rfl
@[simp] theorem ZA9:QE Tryz.prog 135=some (false,1):=by kernel_rfl
@[simp] theorem ZBG:ZfI Tryz.prog 135=some 5:=by kernel_rfl
@[simp] theorem ZAF:zAV Tryz.prog 137 [Value.pointer none,Value.slice none 0 0]=[.lit (Value.pointer none),.nl 1]:=by kernel_rfl
@[simp] theorem ZCB:WS Tryz.prog 137=some [Value.pointer none,Value.slice none 0 0]:=by kernel_rfl
@[simp] theorem Zym:Q6 Tryz.prog 137 1=some (1,false,1):=by kernel_rfl
@[simp] theorem ZBn:ptT Tryz.prog 159=some 5:=by kernel_rfl
@[simp] theorem ZBb:Wa Tryz.prog 163=some (9,false,1,16,[Value.string {data:=#[]}]):=by kernel_rfl
@[simp] theorem zv4:Zje Tryz.prog 4=some (Value.bool false):=by kernel_rfl
end
end Go.Proofs.YtdaonnnlgfhlaaaGreatDoor
