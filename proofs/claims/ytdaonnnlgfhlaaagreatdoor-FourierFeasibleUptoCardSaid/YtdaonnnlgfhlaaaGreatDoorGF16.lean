import Derived.Test.YtdaonnnlgfhlaaaGreatDoorGF15
import Derived.Test.YtdaonnnlgfhlaaaGreatDoorGF13
import Derived.Test.YtdaonnnlgfhlaaaGreatDoorGF8
set_option linter.all false
set_option maxRecDepth 100000
namespace Go.Proofs.YtdaonnnlgfhlaaaGreatDoor
section
open Go.RowKit
def livesT:List (Nat × List (Nat × List Nat)):=[(9,[(4,[1,3]),(1000004,[2])]),(13,[(4,[2,3,5]),(1000004,[4])]),(17,[(6,[1,6,7,8,27,28,29,ph 6 0 28 4]),(16,[1,6,8,53,54,55]),(20,[1,6,8,12,13,53,54,55,62,63,64]),(1000006,[1,6,7,8]),(1000016,[6]),(1000020,[1,6,8,53,54,55])]),(18,[(5,[0,1,6,7,8,9]),(16,[1,6,7,8,10]),(19,[1,6,7,8,10,11]),(1000005,[1,4,5,6,7,8]),(1000016,[6]),(1000019,[1,6,7,8,10])]),(19,[(4,[0,1,5]),(1000004,[4])]),(21,[(2,[1,2,5]),(1000002,[2,4])]),(22,[(2,[1,2,4,5]),(1000002,[4])]),(29,[(8,[3,4,6,7,8]),(16,[3,4,7,11,12]),(20,[3,4,7,11,12,13,14]),(1000008,[2,3,4,7]),(1000016,[2,3,4,7]),(1000020,[3,4,7,11,12,13])]),(30,[(9,[2,7,12,13,56,57,58]),(1000009,[6,7,8,12,13])]),(41,[(3,[2,3,4,5,6,ph 5 0 68 4]),(1000003,[4,5])]),(43,[(4,[0,5]),(1000004,[4])]),(44,[(2,[1,7,8,9]),(1000002,[4])]),(45,[(2,[1,4,8,9,10]),(1000002,[4])]),(49,[(5,[0,5,6]),(1000005,[0,4,5])]),(50,[(3,[3,4,5,6]),(1000003,[4,5])]),(54,[(3,[0,1,5,6]),(7,[0,1,5,6,7,8]),(1000003,[5]),(1000007,[0,1,5,6])]),(58,[(2,[0,11,12]),(11,[8,28,29,30,ph 8 0 28 4]),(1000002,[0,4,5]),(1000011,[8])]),(59,[(2,[0,1,5]),(1000002,[1,4])]),(60,[(3,[0,1,6,7]),(7,[1,6,8]),(1000003,[1,6]),(1000007,[4,5,6])]),(63,[(4,[1,2,6,7,8]),(18,[1,6,7,14,15]),(24,[1,6,7,14,16]),(1000004,[1,4,5,6,7]),(1000018,[1,4,5,6,7,14]),(1000024,[6])]),(64,[(3,[0,1,5,6,7]),(1000003,[5,6])]),(65,[(3,[0,1,2,8,9]),(8,[0,1,2,8,10]),(11,[0,1,2,8,10,11]),(16,[0,1,2,8,10,11,12,13]),(1000003,[0,1,2,8]),(1000008,[6,7,8]),(1000011,[0,1,2,6,7,8,10]),(1000016,[0,1,2,8,10,11,12])]),(66,[(4,[0,1,5,6,7,8,9,10,ph 8 1 0 0,ph 8 2 0 0,ph 9 1 0 0,ph 9 2 0 0]),(1000004,[4,5,6,7,8,9])]),(67,[(2,[1,2,8,9,10]),(1000002,[2,4])]),(76,[(6,[1,5,29,30,31]),(10,[1,5,6,7,8,29,30,31,36,37,38]),(1000006,[5]),(1000010,[1,5,6,8,29,30,31])]),(78,[(3,[5,6,7,8,9,ph 7 0 68 4]),(1000003,[6,7])]),(84,[(4,[1,3,4,11,12,13]),(1000004,[1,3,4])]),(86,[(4,[1,3,5,6,7,8,9]),(1000004,[1,3,5,6,7,8])]),(88,[(2,[0,1]),(1000002,[0])]),(89,[(9,[0,1,11,12,13]),(1000009,[11,12])]),(91,[(2,[0,3]),(1000002,[0,3])]),(93,[(1,[0,1]),(1000001,[0])]),(94,[(3,[0,3,4]),(7,[0,3,5]),(1000003,[0,3]),(1000007,[2])]),(95,[(2,[0,3]),(1000002,[3])]),(100,[(3,[0,4,6,7,ph 6 0 0 0]),(1000003,[4,5,6])]),(107,[(2,[0,1]),(10,[11,13]),(1000002,[0,1]),(1000010,[11])]),(108,[(13,[9,10,11,12,13]),(1000013,[9,10,12])]),(109,[(2,[0,3]),(1000002,[0,3])]),(113,[(4,[0,1,5,6,7]),(1000004,[5,6])]),(114,[(6,[0,1,6,7,8]),(1000006,[6])]),(122,[(6,[3,4]),(1000006,[3])]),(123,[(4,[0,1,5,6,7]),(1000004,[5,6])]),(124,[(2,[0,1,5]),(1000002,[4])]),(127,[(7,[0,1,5]),(1000007,[4])]),(131,[(6,[4,12,13,14]),(1000006,[4])]),(132,[(4,[0,1,6,7,8]),(1000004,[6,7])]),(134,[(3,[1,5,13,14,15]),(1000003,[5])]),(135,[(3,[0,1,2,7,8,15,16,17]),(17,[0,1,2,7,70,71,72]),(1000003,[0,1,2,7,8]),(1000017,[0,1,2,7])]),(136,[(4,[0,1,5,7,8]),(1000004,[7])]),(137,[(9,[0,1,6,30,31,32]),(1000009,[6])]),(141,[(5,[0,3,4]),(1000005,[4])]),(147,[(38,[7,8,9]),(1000038,[9])]),(148,[(1,[0,2,3]),(1000001,[])]),(149,[(12,[0,1,5,39,40,41]),(22,[1,8,63,64,65]),(1000012,[0,1,5]),(1000022,[8])]),(152,[(1,[0,1,4]),(1000001,[0,1,4])]),(153,[(11,[0,1,3,4,10,11,12,13,14,15,16]),(18,[0,1,3,4,10,11,12,13,17]),(1000011,[0,1,3,4,10,11,12,13]),(1000018,[0,1,3,4,10,11,12,13])])]
def Za(f:FuncId):Nat→List Nat:=lv ((livesT.lookup f).getD [])
def modesT:List (Nat × (List Bool × Bool)):=[(46,([true,false],false)),(49,([true,false],true)),(81,([true,false],true)),(94,([true],false)),(112,([true,false,false],true)),(115,([false,false,true],false)),(116,([true],false)),(117,([true,false],false)),(120,([true],false)),(135,([true,false,false],false)),(139,([true],false)),(148,([true],false)),(152,([true,false],false)),(153,([true,false,false,false,false],true)),(157,([true,false],false)),(166,([true,false],false))]
noncomputable def Ym(f:FuncId):Func:=(Tryz.prog.funcs[f]?).getD default
def Wh(f:FuncId):Bool:=((modesT.lookup f).getD ([],false)).2
noncomputable def tab:Nat→FuncId→Option Orc
 | 0,f=>ZhY f
 | n+1,f=>match ZhY f with
   | some x=>some x
   | none=>match Xn Tryz.prog f with
     | true=>(match modesT.lookup f with
       | some (ms,k)=>some (.lin ms (fnL Tryz.prog (tab n) (Za f) big (Ym f) (Wh f)))
       | none=>some (.pure (fnP Tryz.prog (tab n) (Za f) big (Ym f))))
     | false=>none
theorem VR{f:FuncId}(h:Xn Tryz.prog f=true): Tryz.prog.funcs[f]?=some (Ym f):=by
 unfold Xn at h
 unfold Ym
 split at h
 ·rename_i fn hf;rw [hf];rfl
 ·cases h
theorem ZeP:∀n,OrcOk Tryz.prog (tab n)
 | 0=>orc0_ok
 | n+1=>by
   have key:∀f x,tab (n+1) f=some x→(ZhY f=some x)∨(Xn Tryz.prog f=true∧((∃(ms:List Bool) (k:Bool),x=.lin ms (fnL Tryz.prog (tab n) (Za f) big (Ym f) (Wh f)))∨x=.pure (fnP Tryz.prog (tab n) (Za f) big (Ym f)))):=fun f x h=>by
    unfold tab at h
    split at h
    ·rename_i y hy;cases h;exact .inl hy
    ·split at h
     ·rename_i hp
      split at h
      ·cases h;exact .inr ⟨hp,.inl ⟨_,false,rfl⟩⟩
      ·cases h;exact .inr ⟨hp,.inr rfl⟩
     ·cases h
   refine ⟨fun f g h=>?_,fun f ms g h=>?_⟩
   ·rcases key f _ h with h|⟨hp,⟨ms,k,h⟩|h⟩
    ·exact orc0_ok.pure f g h
    ·cases h
    ·cases h
     exact ⟨hp,fun args r hr=>Ze3 (ZeP n) mixed (VR hp) (Ua hp (VR hp)) hr⟩
   ·rcases key f _ h with h|⟨hp,⟨ms,k,h⟩|h⟩
    ·exact orc0_ok.lin f ms g h
    ·cases h
     exact ⟨hp,fun bin args r outs hr=>Zsv (ZeP n) mixed (VR hp) (Ua hp (VR hp)) hr⟩
    ·cases h
noncomputable def run(n:Nat)(f:FuncId)(args:List AV):Option AV:=fnP Tryz.prog (tab n) (Za f) big (Ym f) args
noncomputable def Zp(n:Nat)(f:FuncId)(args:List AV)(bin:List AB):Option (AV × List (Nat × AB)):=fnL Tryz.prog (tab n) (Za f) big (Ym f) (Wh f) args bin
theorem Zu{n:Nat}{f:FuncId}(h0:ZhY f=none)(hp:Xn Tryz.prog f=true)(hm:modesT.lookup f=none):tab (n+1) f=some (.pure (run n f)):=by
 unfold tab
 rw [h0]
 simp only [hp,hm]
 rfl
theorem Wp{n:Nat}{f:FuncId}{ms:List Bool}{k:Bool}(h0:ZhY f=none)(hp:Xn Tryz.prog f=true)(hm:modesT.lookup f=some (ms,k)):tab (n+1) f=some (.lin ms (Zp n f)):=by
 unfold tab
 rw [h0]
 simp only [hp,hm]
 rfl
theorem ZI{f:FuncId}{x:Orc}(h:ZhY f=some x):∀n,tab n f=some x
 | 0=>h
 | n+1=>by unfold tab;rw [h]
@[simp] theorem ZCC:Ym 6= Tryz.f6:=by kernel_rfl
@[simp] theorem tb_8(n:Nat):tab (n+1) 8=some (.pure (run n 8)):=Zu (by kernel_rfl) (by kernel_rfl) (by kernel_rfl)
@[simp] theorem ZCi:Ym 9= Tryz.f9:=by kernel_rfl
@[simp] theorem ZAE:Za 9 4=[1,3]:=by kernel_rfl
@[simp] theorem Zrw:Za 9 1000004=[2]:=by kernel_rfl
@[simp] theorem tb_9(n:Nat):tab (n+1) 9=some (.pure (run n 9)):=Zu (by kernel_rfl) (by kernel_rfl) (by kernel_rfl)
@[simp] theorem ZCb:Ym 11= Tryz.f11:=by kernel_rfl
@[simp] theorem tb_11(n:Nat):tab (n+1) 11=some (.pure (run n 11)):=Zu (by kernel_rfl) (by kernel_rfl) (by kernel_rfl)
@[simp] theorem ZBT:Ym 13= Tryz.f13:=by kernel_rfl
@[simp] theorem ZzZ:Za 13 4=[2,3,5]:=by kernel_rfl
@[simp] theorem Zqs:Za 13 1000004=[4]:=by kernel_rfl
@[simp] theorem tb_13(n:Nat):tab (n+1) 13=some (.pure (run n 13)):=Zu (by kernel_rfl) (by kernel_rfl) (by kernel_rfl)
@[simp] theorem ZB2:Ym 14= Tryz.f14:=by kernel_rfl
@[simp] theorem tb_14(n:Nat):tab (n+1) 14=some (.pure (run n 14)):=Zu (by kernel_rfl) (by kernel_rfl) (by kernel_rfl)
@[simp] theorem ZBk:Ym 16= Tryz.f16:=by kernel_rfl
@[simp] theorem tb_16(n:Nat):tab (n+1) 16=some (.pure (run n 16)):=Zu (by kernel_rfl) (by kernel_rfl) (by kernel_rfl)
@[simp] theorem ZBY:Ym 17= Tryz.f17:=by kernel_rfl
@[simp] theorem Zzy:Za 17 6=[1,6,7,8,27,28,29,ph 6 0 28 4]:=by kernel_rfl
@[simp] theorem Zxc:Za 17 16=[1,6,8,53,54,55]:=by kernel_rfl
@[simp] theorem ZxT:Za 17 20=[1,6,8,12,13,53,54,55,62,63,64]:=by kernel_rfl
@[simp] theorem ZqG:Za 17 1000006=[1,6,7,8]:=by kernel_rfl
@[simp] theorem Zqu:Za 17 1000016=[6]:=by kernel_rfl
@[simp] theorem Zqt:Za 17 1000020=[1,6,8,53,54,55]:=by kernel_rfl
@[simp] theorem tb_17(n:Nat):tab (n+1) 17=some (.pure (run n 17)):=Zu (by kernel_rfl) (by kernel_rfl) (by kernel_rfl)
@[simp] theorem ZBc:Ym 18= Tryz.f18:=by kernel_rfl
@[simp] theorem ZzY:Za 18 5=[0,1,6,7,8,9]:=by kernel_rfl
@[simp] theorem Zyr:Za 18 16=[1,6,7,8,10]:=by kernel_rfl
@[simp] theorem Zxd:Za 18 19=[1,6,7,8,10,11]:=by kernel_rfl
@[simp] theorem ZqC:Za 18 1000005=[1,4,5,6,7,8]:=by kernel_rfl
@[simp] theorem Zqn:Za 18 1000016=[6]:=by kernel_rfl
@[simp] theorem ZqW:Za 18 1000019=[1,6,7,8,10]:=by kernel_rfl
@[simp] theorem tb_18(n:Nat):tab (n+1) 18=some (.pure (run n 18)):=Zu (by kernel_rfl) (by kernel_rfl) (by kernel_rfl)
@[simp] theorem ZBh:Ym 21= Tryz.f21:=by kernel_rfl
@[simp] theorem Zzh:Za 21 2=[1,2,5]:=by kernel_rfl
@[simp] theorem ZqR:Za 21 1000002=[2,4]:=by kernel_rfl
@[simp] theorem tb_21(n:Nat):tab (n+1) 21=some (.pure (run n 21)):=Zu (by kernel_rfl) (by kernel_rfl) (by kernel_rfl)
@[simp] theorem ZB3:Ym 22= Tryz.f22:=by kernel_rfl
@[simp] theorem Zzc:Za 22 2=[1,2,4,5]:=by kernel_rfl
@[simp] theorem Zqo:Za 22 1000002=[4]:=by kernel_rfl
@[simp] theorem tb_22(n:Nat):tab (n+1) 22=some (.pure (run n 22)):=Zu (by kernel_rfl) (by kernel_rfl) (by kernel_rfl)
@[simp] theorem ZBS:Ym 23= Tryz.f23:=by kernel_rfl
@[simp] theorem tb_23(n:Nat):tab (n+1) 23=some (.pure (run n 23)):=Zu (by kernel_rfl) (by kernel_rfl) (by kernel_rfl)
@[simp] theorem ZBD:Ym 27= Tryz.f27:=by kernel_rfl
@[simp] theorem tb_27(n:Nat):tab (n+1) 27=some (.pure (run n 27)):=Zu (by kernel_rfl) (by kernel_rfl) (by kernel_rfl)
@[simp] theorem ZBU:Ym 28= Tryz.f28:=by kernel_rfl
@[simp] theorem tb_28(n:Nat):tab (n+1) 28=some (.pure (run n 28)):=Zu (by kernel_rfl) (by kernel_rfl) (by kernel_rfl)
@[simp] theorem ZBz:Ym 29= Tryz.f29:=by kernel_rfl
@[simp] theorem ZzI:Za 29 8=[3,4,6,7,8]:=by kernel_rfl
@[simp] theorem ZxZ:Za 29 16=[3,4,7,11,12]:=by kernel_rfl
@[simp] theorem Zx0:Za 29 20=[3,4,7,11,12,13,14]:=by kernel_rfl
@[simp] theorem Zqk:Za 29 1000008=[2,3,4,7]:=by kernel_rfl
@[simp] theorem Zqr:Za 29 1000016=[2,3,4,7]:=by kernel_rfl
@[simp] theorem ZqI:Za 29 1000020=[3,4,7,11,12,13]:=by kernel_rfl
@[simp] theorem tb_29(n:Nat):tab (n+1) 29=some (.pure (run n 29)):=Zu (by kernel_rfl) (by kernel_rfl) (by kernel_rfl)
@[simp] theorem ZBM:Ym 33= Tryz.f33:=by kernel_rfl
@[simp] theorem tb_33(n:Nat):tab (n+1) 33=some (.pure (run n 33)):=Zu (by kernel_rfl) (by kernel_rfl) (by kernel_rfl)
@[simp] theorem ZBL:Ym 36= Tryz.f36:=by kernel_rfl
@[simp] theorem tb_36(n:Nat):tab (n+1) 36=some (.pure (run n 36)):=Zu (by kernel_rfl) (by kernel_rfl) (by kernel_rfl)
@[simp] theorem ZBf:Ym 37= Tryz.f37:=by kernel_rfl
@[simp] theorem tb_37(n:Nat):tab (n+1) 37=some (.pure (run n 37)):=Zu (by kernel_rfl) (by kernel_rfl) (by kernel_rfl)
@[simp] theorem ZBr:Ym 41= Tryz.f41:=by kernel_rfl
@[simp] theorem ZzN:Za 41 3=[2,3,4,5,6,ph 5 0 68 4]:=by kernel_rfl
@[simp] theorem ZqN:Za 41 1000003=[4,5]:=by kernel_rfl
@[simp] theorem tb_41(n:Nat):tab (n+1) 41=some (.pure (run n 41)):=Zu (by kernel_rfl) (by kernel_rfl) (by kernel_rfl)
@[simp] theorem ZBW:Ym 43= Tryz.f43:=by kernel_rfl
@[simp] theorem Zy9:Za 43 4=[0,5]:=by kernel_rfl
@[simp] theorem Zqq:Za 43 1000004=[4]:=by kernel_rfl
@[simp] theorem tb_43(n:Nat):tab (n+1) 43=some (.pure (run n 43)):=Zu (by kernel_rfl) (by kernel_rfl) (by kernel_rfl)
@[simp] theorem ZBv:Ym 44= Tryz.f44:=by kernel_rfl
@[simp] theorem ZzJ:Za 44 2=[1,7,8,9]:=by kernel_rfl
@[simp] theorem ZqU:Za 44 1000002=[4]:=by kernel_rfl
@[simp] theorem tb_44(n:Nat):tab (n+1) 44=some (.pure (run n 44)):=Zu (by kernel_rfl) (by kernel_rfl) (by kernel_rfl)
@[simp] theorem ZBo:Ym 45= Tryz.f45:=by kernel_rfl
@[simp] theorem Zz0:Za 45 2=[1,4,8,9,10]:=by kernel_rfl
@[simp] theorem ZqK:Za 45 1000002=[4]:=by kernel_rfl
@[simp] theorem tb_45(n:Nat):tab (n+1) 45=some (.pure (run n 45)):=Zu (by kernel_rfl) (by kernel_rfl) (by kernel_rfl)
@[simp] theorem ZB6:Ym 46= Tryz.f46:=by kernel_rfl
@[simp] theorem tb_46(n:Nat):tab (n+1) 46=some (.lin [true,false] (Zp n 46)):=Wp (k:=false) (by kernel_rfl) (by kernel_rfl) (by kernel_rfl)
@[simp] theorem ZBI:Wh 46=false:=by kernel_rfl
@[simp] theorem ZBg:Ym 48= Tryz.f48:=by kernel_rfl
@[simp] theorem tb_48(n:Nat):tab (n+1) 48=some (.pure (run n 48)):=Zu (by kernel_rfl) (by kernel_rfl) (by kernel_rfl)
@[simp] theorem ZA8:Ym 49= Tryz.f49:=by kernel_rfl
@[simp] theorem ZzC:Za 49 5=[0,5,6]:=by kernel_rfl
@[simp] theorem Zqm:Za 49 1000005=[0,4,5]:=by kernel_rfl
@[simp] theorem tb_49(n:Nat):tab (n+1) 49=some (.lin [true,false] (Zp n 49)):=Wp (k:=true) (by kernel_rfl) (by kernel_rfl) (by kernel_rfl)
@[simp] theorem ZBi:Wh 49=true:=by kernel_rfl
@[simp] theorem ZBm:Ym 50= Tryz.f50:=by kernel_rfl
@[simp] theorem Zzn:Za 50 3=[3,4,5,6]:=by kernel_rfl
@[simp] theorem ZqD:Za 50 1000003=[4,5]:=by kernel_rfl
@[simp] theorem tb_50(n:Nat):tab (n+1) 50=some (.pure (run n 50)):=Zu (by kernel_rfl) (by kernel_rfl) (by kernel_rfl)
@[simp] theorem tb_53(n:Nat):tab (n+1) 53=some (.pure (oQt)):=ZI rfl _
@[simp] theorem tb_54(n:Nat):tab (n+1) 54=some (.pure (oN2 fun x y=>Zc (lmb (val x*val y)))):=ZI rfl _
@[simp] theorem tb_55(n:Nat):tab (n+1) 55=some (.pure (oN1 (fun _=>true) fun x=>Zc (lmb (dn x)))):=ZI rfl _
@[simp] theorem ZBa:Ym 58= Tryz.f58:=by kernel_rfl
@[simp] theorem ZzA:Za 58 2=[0,11,12]:=by kernel_rfl
@[simp] theorem Zyu:Za 58 11=[8,28,29,30,ph 8 0 28 4]:=by kernel_rfl
@[simp] theorem ZqT:Za 58 1000002=[0,4,5]:=by kernel_rfl
@[simp] theorem Zqv:Za 58 1000011=[8]:=by kernel_rfl
@[simp] theorem tb_58(n:Nat):tab (n+1) 58=some (.pure (run n 58)):=Zu (by kernel_rfl) (by kernel_rfl) (by kernel_rfl)
@[simp] theorem ZBP:Ym 59= Tryz.f59:=by kernel_rfl
@[simp] theorem Zy5:Za 59 2=[0,1,5]:=by kernel_rfl
@[simp] theorem ZqM:Za 59 1000002=[1,4]:=by kernel_rfl
@[simp] theorem tb_59(n:Nat):tab (n+1) 59=some (.pure (run n 59)):=Zu (by kernel_rfl) (by kernel_rfl) (by kernel_rfl)
@[simp] theorem ZBX:Ym 60= Tryz.f60:=by kernel_rfl
@[simp] theorem Zz9:Za 60 3=[0,1,6,7]:=by kernel_rfl
@[simp] theorem Zz7:Za 60 7=[1,6,8]:=by kernel_rfl
@[simp] theorem ZqE:Za 60 1000003=[1,6]:=by kernel_rfl
@[simp] theorem Zqw:Za 60 1000007=[4,5,6]:=by kernel_rfl
@[simp] theorem tb_60(n:Nat):tab (n+1) 60=some (.pure (run n 60)):=Zu (by kernel_rfl) (by kernel_rfl) (by kernel_rfl)
@[simp] theorem ZB7:Ym 61= Tryz.f61:=by kernel_rfl
@[simp] theorem tb_61(n:Nat):tab (n+1) 61=some (.pure (run n 61)):=Zu (by kernel_rfl) (by kernel_rfl) (by kernel_rfl)
@[simp] theorem ZB1:Ym 62= Tryz.f62:=by kernel_rfl
@[simp] theorem tb_62(n:Nat):tab (n+1) 62=some (.pure (run n 62)):=Zu (by kernel_rfl) (by kernel_rfl) (by kernel_rfl)
@[simp] theorem ZB8:Ym 63= Tryz.f63:=by kernel_rfl
@[simp] theorem Zzz:Za 63 4=[1,2,6,7,8]:=by kernel_rfl
@[simp] theorem ZyB:Za 63 18=[1,6,7,14,15]:=by kernel_rfl
@[simp] theorem Zyy:Za 63 24=[1,6,7,14,16]:=by kernel_rfl
@[simp] theorem ZqJ:Za 63 1000004=[1,4,5,6,7]:=by kernel_rfl
@[simp] theorem ZqO:Za 63 1000018=[1,4,5,6,7,14]:=by kernel_rfl
@[simp] theorem ZqB:Za 63 1000024=[6]:=by kernel_rfl
@[simp] theorem tb_63(n:Nat):tab (n+1) 63=some (.pure (run n 63)):=Zu (by kernel_rfl) (by kernel_rfl) (by kernel_rfl)
@[simp] theorem ZBB:Ym 64= Tryz.f64:=by kernel_rfl
@[simp] theorem ZAb:Za 64 3=[0,1,5,6,7]:=by kernel_rfl
@[simp] theorem Zqx:Za 64 1000003=[5,6]:=by kernel_rfl
@[simp] theorem tb_64(n:Nat):tab (n+1) 64=some (.pure (run n 64)):=Zu (by kernel_rfl) (by kernel_rfl) (by kernel_rfl)
@[simp] theorem ZBC:Ym 65= Tryz.f65:=by kernel_rfl
@[simp] theorem Zy3:Za 65 3=[0,1,2,8,9]:=by kernel_rfl
@[simp] theorem ZzH:Za 65 8=[0,1,2,8,10]:=by kernel_rfl
@[simp] theorem Zw8:Za 65 11=[0,1,2,8,10,11]:=by kernel_rfl
@[simp] theorem ZyD:Za 65 16=[0,1,2,8,10,11,12,13]:=by kernel_rfl
@[simp] theorem ZqQ:Za 65 1000003=[0,1,2,8]:=by kernel_rfl
@[simp] theorem Zqz:Za 65 1000008=[6,7,8]:=by kernel_rfl
@[simp] theorem ZqL:Za 65 1000011=[0,1,2,6,7,8,10]:=by kernel_rfl
@[simp] theorem Zqy:Za 65 1000016=[0,1,2,8,10,11,12]:=by kernel_rfl
@[simp] theorem tb_65(n:Nat):tab (n+1) 65=some (.pure (run n 65)):=Zu (by kernel_rfl) (by kernel_rfl) (by kernel_rfl)
@[simp] theorem ZBj:Ym 66= Tryz.f66:=by kernel_rfl
@[simp] theorem ZzS:Za 66 4=[0,1,5,6,7,8,9,10,ph 8 1 0 0,ph 8 2 0 0,ph 9 1 0 0,ph 9 2 0 0]:=by kernel_rfl
@[simp] theorem ZqY:Za 66 1000004=[4,5,6,7,8,9]:=by kernel_rfl
@[simp] theorem tb_66(n:Nat):tab (n+1) 66=some (.pure (run n 66)):=Zu (by kernel_rfl) (by kernel_rfl) (by kernel_rfl)
@[simp] theorem ZB4:Ym 67= Tryz.f67:=by kernel_rfl
@[simp] theorem ZAd:Za 67 2=[1,2,8,9,10]:=by kernel_rfl
@[simp] theorem Zql:Za 67 1000002=[2,4]:=by kernel_rfl
@[simp] theorem tb_67(n:Nat):tab (n+1) 67=some (.pure (run n 67)):=Zu (by kernel_rfl) (by kernel_rfl) (by kernel_rfl)
@[simp] theorem ZBJ:Ym 68= Tryz.f68:=by kernel_rfl
@[simp] theorem tb_75(n:Nat):tab (n+1) 75=some (.pure (oQt)):=ZI rfl _
@[simp] theorem tb_76(n:Nat):tab (n+1) 76=some (.pure (oN2 fun x y=>Zc (lmb (val x*val y)))):=ZI rfl _
@[simp] theorem tb_77(n:Nat):tab (n+1) 77=some (.pure (o1 fun x=>Zc (unL x.l2))):=ZI rfl _
@[simp] theorem ZBE:Ym 78= Tryz.f78:=by kernel_rfl
@[simp] theorem Zzp:Za 78 3=[5,6,7,8,9,ph 7 0 68 4]:=by kernel_rfl
@[simp] theorem ZqX:Za 78 1000003=[6,7]:=by kernel_rfl
@[simp] theorem tb_78(n:Nat):tab (n+1) 78=some (.pure (run n 78)):=Zu (by kernel_rfl) (by kernel_rfl) (by kernel_rfl)
@[simp] theorem ZBe:Ym 81= Tryz.f81:=by kernel_rfl
@[simp] theorem tb_81(n:Nat):tab (n+1) 81=some (.lin [true,false] (Zp n 81)):=Wp (k:=true) (by kernel_rfl) (by kernel_rfl) (by kernel_rfl)
@[simp] theorem ZBO:Wh 81=true:=by kernel_rfl
@[simp] theorem ZBd:Ym 83= Tryz.f83:=by kernel_rfl
@[simp] theorem tb_83(n:Nat):tab (n+1) 83=some (.pure (run n 83)):=Zu (by kernel_rfl) (by kernel_rfl) (by kernel_rfl)
@[simp] theorem ZBq:Ym 84= Tryz.f84:=by kernel_rfl
@[simp] theorem ZzO:Za 84 4=[1,3,4,11,12,13]:=by kernel_rfl
@[simp] theorem ZqH:Za 84 1000004=[1,3,4]:=by kernel_rfl
@[simp] theorem tb_84(n:Nat):tab (n+1) 84=some (.pure (run n 84)):=Zu (by kernel_rfl) (by kernel_rfl) (by kernel_rfl)
@[simp] theorem ZBA:Ym 86= Tryz.f86:=by kernel_rfl
@[simp] theorem Zzd:Za 86 4=[1,3,5,6,7,8,9]:=by kernel_rfl
@[simp] theorem ZqZ:Za 86 1000004=[1,3,5,6,7,8]:=by kernel_rfl
@[simp] theorem tb_86(n:Nat):tab (n+1) 86=some (.pure (run n 86)):=Zu (by kernel_rfl) (by kernel_rfl) (by kernel_rfl)
@[simp] theorem tb_87(n:Nat):tab (n+1) 87=some (.pure (oU fun k=>Zc (lmb k))):=ZI rfl _
@[simp] theorem tb_89(n:Nat):tab (n+1) 89=some (.pure (oND fun x y=>.tup [Zc (lmb (val x / val y)),Zc (lmb (val x % val y)),.lit (.int .i64 0)])):=ZI rfl _
@[simp] theorem tb_91(n:Nat):tab (n+1) 91=some (.pure (oN1 (fun _=>true) fun x=>Zc (lmb (val x)))):=ZI rfl _
@[simp] theorem ZCa:Ym 92= Tryz.f92:=by kernel_rfl
@[simp] theorem tb_92(n:Nat):tab (n+1) 92=some (.pure (run n 92)):=Zu (by kernel_rfl) (by kernel_rfl) (by kernel_rfl)
@[simp] theorem ZB9:Ym 93= Tryz.f93:=by kernel_rfl
@[simp] theorem Zy8:Za 93 1=[0,1]:=by kernel_rfl
@[simp] theorem ZqA:Za 93 1000001=[0]:=by kernel_rfl
@[simp] theorem tb_93(n:Nat):tab (n+1) 93=some (.pure (run n 93)):=Zu (by kernel_rfl) (by kernel_rfl) (by kernel_rfl)
@[simp] theorem ZBw:Ym 94= Tryz.f94:=by kernel_rfl
@[simp] theorem ZzQ:Za 94 3=[0,3,4]:=by kernel_rfl
@[simp] theorem Zzl:Za 94 7=[0,3,5]:=by kernel_rfl
@[simp] theorem Zqp:Za 94 1000003=[0,3]:=by kernel_rfl
@[simp] theorem ZqF:Za 94 1000007=[2]:=by kernel_rfl
@[simp] theorem tb_94(n:Nat):tab (n+1) 94=some (.lin [true] (Zp n 94)):=Wp (k:=false) (by kernel_rfl) (by kernel_rfl) (by kernel_rfl)
@[simp] theorem ZBV:Wh 94=false:=by kernel_rfl
@[simp] theorem ZBu:Ym 95= Tryz.f95:=by kernel_rfl
@[simp] theorem ZAa:Za 95 2=[0,3]:=by kernel_rfl
@[simp] theorem ZqP:Za 95 1000002=[3]:=by kernel_rfl
@[simp] theorem tb_95(n:Nat):tab (n+1) 95=some (.pure (run n 95)):=Zu (by kernel_rfl) (by kernel_rfl) (by kernel_rfl)
@[simp] theorem tb_102(n:Nat):tab (n+1) 102=some (.pure (oU fun k=>Zc (lmb k))):=ZI rfl _
@[simp] theorem tb_105(n:Nat):tab (n+1) 105=some (.pure (oN1 (fun _=>true) fun x=>Zc (lmb (val x)))):=ZI rfl _
@[simp] theorem tb_108(n:Nat):tab (n+1) 108=some (.pure (oND fun x y=>.tup [Zc (lmb (val x / val y)),Zc (lmb (val x % val y)),.lit (.int .i64 0)])):=ZI rfl _
@[simp] theorem ZAu:Ym 112= Tryz.f112:=by kernel_rfl
@[simp] theorem tb_112(n:Nat):tab (n+1) 112=some (.lin [true,false,false] (Zp n 112)):=Wp (k:=true) (by kernel_rfl) (by kernel_rfl) (by kernel_rfl)
@[simp] theorem ZA2:Wh 112=true:=by kernel_rfl
@[simp] theorem tb_113(n:Nat):tab (n+1) 113=some (.pure (oN2 fun x y=>Zc (lmb (val x+val y)))):=ZI rfl _
@[simp] theorem ZAS:Ym 115= Tryz.f115:=by kernel_rfl
@[simp] theorem tb_115(n:Nat):tab (n+1) 115=some (.lin [false,false,true] (Zp n 115)):=Wp (k:=false) (by kernel_rfl) (by kernel_rfl) (by kernel_rfl)
@[simp] theorem ZAB:Wh 115=false:=by kernel_rfl
@[simp] theorem ZAZ:Ym 116= Tryz.f116:=by kernel_rfl
@[simp] theorem tb_116(n:Nat):tab (n+1) 116=some (.lin [true] (Zp n 116)):=Wp (k:=false) (by kernel_rfl) (by kernel_rfl) (by kernel_rfl)
@[simp] theorem ZAV:Wh 116=false:=by kernel_rfl
@[simp] theorem ZAz:Ym 117= Tryz.f117:=by kernel_rfl
@[simp] theorem tb_117(n:Nat):tab (n+1) 117=some (.lin [true,false] (Zp n 117)):=Wp (k:=false) (by kernel_rfl) (by kernel_rfl) (by kernel_rfl)
@[simp] theorem ZAD:Wh 117=false:=by kernel_rfl
@[simp] theorem tb_118(n:Nat):tab (n+1) 118=some (.pure (UW)):=ZI rfl _
@[simp] theorem ZAT:Ym 119= Tryz.f119:=by kernel_rfl
@[simp] theorem tb_119(n:Nat):tab (n+1) 119=some (.pure (run n 119)):=Zu (by kernel_rfl) (by kernel_rfl) (by kernel_rfl)
@[simp] theorem ZAG:Ym 120= Tryz.f120:=by kernel_rfl
@[simp] theorem tb_120(n:Nat):tab (n+1) 120=some (.lin [true] (Zp n 120)):=Wp (k:=false) (by kernel_rfl) (by kernel_rfl) (by kernel_rfl)
@[simp] theorem ZAp:Wh 120=false:=by kernel_rfl
@[simp] theorem tb_121(n:Nat):tab (n+1) 121=some (.pure (oN1 Zds fun x=>.tup [.lit (.int .u64 (val x:Nat)),.lit (.bool true)])):=ZI rfl _
@[simp] theorem tb_131(n:Nat):tab (n+1) 131=some (.pure (oN1 Zds fun x=>.tup [.lit (.int .u64 (val x:Nat)),.lit (.bool true)])):=ZI rfl _
@[simp] theorem tb_139(n:Nat):tab (n+1) 139=some (.lin [true] ccG):=ZI rfl _
@[simp] theorem ZAX:Ym 141= Tryz.f141:=by kernel_rfl
@[simp] theorem ZxQ:Za 141 5=[0,3,4]:=by kernel_rfl
@[simp] theorem Zpw:Za 141 1000005=[4]:=by kernel_rfl
@[simp] theorem tb_141(n:Nat):tab (n+1) 141=some (.pure (run n 141)):=Zu (by kernel_rfl) (by kernel_rfl) (by kernel_rfl)
@[simp] theorem tb_146(n:Nat):tab (n+1) 146=some (.pure (oFU)):=ZI rfl _
@[simp] theorem tb_147(n:Nat):tab (n+1) 147=some (.pure (UB)):=ZI rfl _
@[simp] theorem ZAY:Ym 148= Tryz.f148:=by kernel_rfl
@[simp] theorem Zxn:Za 148 1=[0,2,3]:=by kernel_rfl
@[simp] theorem Znf:Za 148 1000001=[]:=by kernel_rfl
@[simp] theorem tb_148(n:Nat):tab (n+1) 148=some (.lin [true] (Zp n 148)):=Wp (k:=false) (by kernel_rfl) (by kernel_rfl) (by kernel_rfl)
@[simp] theorem ZAt:Wh 148=false:=by kernel_rfl
@[simp] theorem tb_149(n:Nat):tab (n+1) 149=some (.pure (Zcs)):=ZI rfl _
end
section
open Go.RowKit
def ZpA(q:Rat):List AV:=[.lit (.bool (Zd q).s),Zc (Zd q).l1,Zc (Zd q).l2]
def Zr(t:Int × Rat):List AV:=[.lit (.int .i64 t.1),.lit (.bool (Zd t.2).s),Zc (Zd t.2).l1,Zc (Zd t.2).l2]
abbrev Zf:=List (Int × Rat) × Rat
def Zh(f:Zf):List AV:=[.sl 4 (f.1.map Zr),.lit (.bool (Zd f.2).s),Zc (Zd f.2).l1,Zc (Zd f.2).l2]
theorem ZD{n b:Nat}(h:n≤100000000)(hb:b≤10000):ZT n b=true:=by
 unfold ZT
 have:n*b≤100000000*10000:=Nat.mul_le_mul h hb
 rw [Bool.and_eq_true]
 exact ⟨decide_eq_true (by omega),decide_eq_true (by omega)⟩
theorem Zu6{F:Raw→AV}{q:Rat}(h:H q≤17179869184):o1 F [Xs q]=some (F (Zd q)):=by
 have h1:(Zd q).few=true:=by
  have a1:(lmb q.num.natAbs).length≤H q:=Nat.le_max_left _ _
  have a2:(QK q.den).length≤H q:=Nat.le_trans (Zb7 _) (Nat.le_max_right _ _)
  unfold Raw.few Zd
  rw [Bool.and_eq_true]
  exact ⟨Nat.ble_eq_true_of_le (by dsimp only;omega),Nat.ble_eq_true_of_le (by dsimp only;omega)⟩
 simp only [o1,Zhe,h1,if_true]
theorem Zva{F:Raw→Raw→AV}{p q:Rat}(hp:H p≤17179869184)(hq:H q≤17179869184):o2 F [Xs p,Xs q]=some (F (Zd p) (Zd q)):=by
 have few:∀{q:Rat},H q≤17179869184→(Zd q).few=true:=fun {q} h=>by
  have a1:(lmb q.num.natAbs).length≤H q:=Nat.le_max_left _ _
  have a2:(QK q.den).length≤H q:=Nat.le_trans (Zb7 _) (Nat.le_max_right _ _)
  unfold Raw.few Zd
  rw [Bool.and_eq_true]
  exact ⟨Nat.ble_eq_true_of_le (by dsimp only;omega),Nat.ble_eq_true_of_le (by dsimp only;omega)⟩
 simp only [o2,Zhe,few hp,few hq,Bool.and_self,if_true]
theorem Zfv{F:Raw→AV}{q:Rat}(h:H q≤17179869184):o1 F [.agg [.lit (.bool (Zd q).s),Zc (Zd q).l1,Zc (Zd q).l2]]=some (F (Zd q)):=Zu6 h
theorem Zez{F:Raw→Raw→AV}{p q:Rat}(hp:H p≤17179869184)(hq:H q≤17179869184):o2 F [.agg [.lit (.bool (Zd p).s),Zc (Zd p).l1,Zc (Zd p).l2],.agg [.lit (.bool (Zd q).s),Zc (Zd q).l1,Zc (Zd q).l2]]=some (F (Zd p) (Zd q)):=Zva hp hq
noncomputable def Zrs:List AV→Option AV:=o2 fun x y=>Xs (x.q+y.q)
@[simp] theorem ZAR(n:Nat):tab n 38=some (.pure Zrs):=ZI rfl n
@[simp] theorem ZzG(n:Nat):tab n 110=some (.pure Zrs):=ZI rfl n
noncomputable def ZxS:List AV→Option AV:=o2 fun x y=>Xs (x.q-y.q)
@[simp] theorem ZAx(n:Nat):tab n 57=some (.pure ZxS):=ZI rfl n
noncomputable def Zq7:List AV→Option AV:=o2 fun x y=>Xs (x.q*y.q)
@[simp] theorem ZAn(n:Nat):tab n 39=some (.pure Zq7):=ZI rfl n
@[simp] theorem Zzu(n:Nat):tab n 111=some (.pure Zq7):=ZI rfl n
noncomputable def Zrp:List AV→Option AV:=o1 fun x=>Xs (-x.q)
@[simp] theorem ZA6(n:Nat):tab n 24=some (.pure Zrp):=ZI rfl n
@[simp] theorem ZzK(n:Nat):tab n 47=some (.pure Zrp):=ZI rfl n
noncomputable def Ze0:List AV→Option AV:=o1 fun x=>Xs x.q
@[simp] theorem Zy0(n:Nat):tab n 56=some (.pure Ze0):=ZI rfl n
@[simp] theorem ZwS(n:Nat):tab n 85=some (.pure Ze0):=ZI rfl n
noncomputable def Zg7:List AV→Option AV:=o1 fun x=>.lit (.int .i64 (sgR x.q))
@[simp] theorem ZzL(n:Nat):tab n 15=some (.pure Zg7):=ZI rfl n
@[simp] theorem ZyS(n:Nat):tab n 35=some (.pure Zg7):=ZI rfl n
noncomputable def Ztg:List AV→Option AV:=o2 fun x y=>.lit (.int .i64 (sgR (x.q-y.q)))
@[simp] theorem ZAJ(n:Nat):tab n 25=some (.pure Ztg):=ZI rfl n
@[simp] theorem Zzt(n:Nat):tab n 69=some (.pure Ztg):=ZI rfl n
noncomputable def Zok:List AV→Option AV:=o2 fun x y=>.lit (.bool (decide (x.s=y.s∧x.l1=y.l1∧x.l2=y.l2)))
@[simp] theorem Zzq(n:Nat):tab n 40=some (.pure Zok):=ZI rfl n
noncomputable def Zdn:List AV→Option AV:=o1 fun x=>.lit (.bool (decide (QQ x.s x.l1 x.l2)))
@[simp] theorem ZxR(n:Nat):tab n 52=some (.pure Zdn):=ZI rfl n
@[simp] theorem ZwA(n:Nat):tab n 97=some (.pure Zdn):=ZI rfl n
noncomputable def fOf:List AV→Option AV:=oZ fun z=>Xs (z:Rat)
@[simp] theorem ZBp(n:Nat):tab n 20=some (.pure fOf):=ZI rfl n
@[simp] theorem ZAM(n:Nat):tab n 34=some (.pure fOf):=ZI rfl n
noncomputable def ZtE:List AV→Option AV:=oZZ fun x y=>.tup [Xs ((x:Rat) / (y:Rat)),.lit (.int .i64 0)]
@[simp] theorem Zzw(n:Nat):tab n 96=some (.pure ZtE):=ZI rfl n
theorem ZdV{p q:Rat}(hp:H p≤17179869184)(hq:H q≤17179869184):Zrs [.agg [.lit (.bool (Zd p).s),Zc (Zd p).l1,Zc (Zd p).l2],.agg [.lit (.bool (Zd q).s),Zc (Zd q).l1,Zc (Zd q).l2]]=some (.agg [.lit (.bool (Zd (p+q)).s),Zc (Zd (p+q)).l1,Zc (Zd (p+q)).l2]):=by unfold Zrs;rw [Zez hp hq,Qx,Qx];rfl
theorem Jp{p q:Rat}(hp:H p≤17179869184)(hq:H q≤17179869184):Zq7 [.agg [.lit (.bool (Zd p).s),Zc (Zd p).l1,Zc (Zd p).l2],.agg [.lit (.bool (Zd q).s),Zc (Zd q).l1,Zc (Zd q).l2]]=some (.agg [.lit (.bool (Zd (p*q)).s),Zc (Zd (p*q)).l1,Zc (Zd (p*q)).l2]):=by unfold Zq7;rw [Zez hp hq,Qx,Qx];rfl
theorem ZdR{p q:Rat}(hp:H p≤17179869184)(hq:H q≤17179869184):Ztg [.agg [.lit (.bool (Zd p).s),Zc (Zd p).l1,Zc (Zd p).l2],.agg [.lit (.bool (Zd q).s),Zc (Zd q).l1,Zc (Zd q).l2]]=some (.lit (.int .i64 (sgR (p-q)))):=by unfold Ztg;rw [Zez hp hq,Qx,Qx]
theorem Zf0{p:Rat}(hp:H p≤17179869184):Zrp [.agg [.lit (.bool (Zd p).s),Zc (Zd p).l1,Zc (Zd p).l2]]=some (.agg [.lit (.bool (Zd (-p)).s),Zc (Zd (-p)).l1,Zc (Zd (-p)).l2]):=by unfold Zrp;rw [Zfv hp,Qx];rfl
theorem ZaS{p:Rat}(hp:H p≤17179869184):Ze0 [.agg [.lit (.bool (Zd p).s),Zc (Zd p).l1,Zc (Zd p).l2]]=some (.agg [.lit (.bool (Zd p).s),Zc (Zd p).l1,Zc (Zd p).l2]):=by unfold Ze0;rw [Zfv hp,Qx];rfl
theorem Yy{p:Rat}(hp:H p≤17179869184):Zg7 [.agg [.lit (.bool (Zd p).s),Zc (Zd p).l1,Zc (Zd p).l2]]=some (.lit (.int .i64 (sgR p))):=by unfold Zg7;rw [Zfv hp,Qx]
theorem ZmV{p q:Rat}(h:Zd p=Zd q):p=q:=by rw [←Qx p,h,Qx]
theorem Zdg{p q:Rat}(hp:H p≤17179869184)(hq:H q≤17179869184):Zok [.agg [.lit (.bool (Zd p).s),Zc (Zd p).l1,Zc (Zd p).l2],.agg [.lit (.bool (Zd q).s),Zc (Zd q).l1,Zc (Zd q).l2]]=some (.lit (.bool (decide (p=q)))):=by
 unfold Zok
 rw [Zez hp hq]
 have:(decide ((Zd p).s=(Zd q).s∧(Zd p).l1=(Zd q).l1∧(Zd p).l2=(Zd q).l2))=decide (p=q):=by
  apply decide_eq_decide.2
  constructor
  ·intro ⟨h1,h2,h3⟩
   apply ZmV
   generalize Zd p=a at*
   generalize Zd q=b at*
   obtain ⟨_,_,_⟩:=a
   obtain ⟨_,_,_⟩:=b
   simp_all
  ·intro h;subst h;exact ⟨rfl,rfl,rfl⟩
 rw [this]
theorem ZAL{z:Int}(h1:-9223372036854775808≤z)(h2:z≤9223372036854775807):fOf [.lit (.int .i64 z)]=some (.agg [.lit (.bool (Zd (z:Rat)).s),Zc (Zd (z:Rat)).l1,Zc (Zd (z:Rat)).l2]):=if_pos ⟨h1,h2⟩
end
section
open Go.RowKit
@[simp] theorem z0s:(Zd 0).s=false:=rfl
@[simp] theorem z0n:Zc (Zd 0).l1=.sl 1 []:=by
  have e:(Zd 0).l1=[]:=by decide+kernel
  rw [e];rfl
@[simp] theorem z0d:Zc (Zd 0).l2=.sl 1 []:=by
  have e:(Zd 0).l2=[]:=by decide+kernel
  rw [e];rfl
@[simp] def Zn(q:Rat):AV:=.agg [.lit (.bool (Zd q).s),Zc (Zd q).l1,Zc (Zd q).l2]
@[simp] def Ze(f:Zf):AV:=.agg [.sl 4 (f.1.map Zr),.lit (.bool (Zd f.2).s),Zc (Zd f.2).l1,Zc (Zd f.2).l2]
attribute [simp] ZpA Zr Zh Zb ZD
def Zc0(q:Rat):Rat:=if q.num<0 then -q else q
theorem Zo6(q:Rat):(-q).num=-q.num:=rfl
theorem ZoW(q:Rat):(-q).den=q.den:=rfl
theorem Zac(q:Rat):Zd (Zc0 q)=⟨false,(Zd q).l1,(Zd q).l2⟩:=by
 by_cases h:q.num<0
 ·have e:Zc0 q=-q:=if_pos h
  have e2:decide (-q.num<0)=false:=decide_eq_false (by omega)
  rw [e]
  unfold Zd
  rw [Zo6,ZoW,Int.natAbs_neg,e2]
 ·have e:Zc0 q=q:=if_neg h
  have e2:decide (q.num<0)=false:=decide_eq_false h
  rw [e]
  unfold Zd
  rw [e2]
@[simp] theorem ZAl(q:Rat):(Zd (Zc0 q)).s=false:=by rw [Zac]
@[simp] theorem ZAi(q:Rat):(Zd (Zc0 q)).l1=(Zd q).l1:=by rw [Zac]
@[simp] theorem ZAC(q:Rat):(Zd (Zc0 q)).l2=(Zd q).l2:=by rw [Zac]
theorem Zwk(q:Rat):H (Zc0 q)=H q:=by
 unfold Zc0
 split
 ·unfold H
  rw [Zo6,ZoW,Int.natAbs_neg]
 ·rfl
def InI(z:Int):Prop:=-9223372036854775808≤z∧z≤9223372036854775807
theorem Ji{p:Rat}(hp:H p≤17179869184):Zdn [.agg [.lit (.bool (Zd p).s),Zc (Zd p).l1,Zc (Zd p).l2]]=some (.lit (.bool true)):=by
 unfold Zdn
 rw [Zfv hp]
 have e:QQ (Zd p).s (Zd p).l1 (Zd p).l2:=by
  have h:sv (Zd p).s (Zd p).l1 (Zd p).l2=p:=Qx p
  unfold QQ
  rw [h]
  exact ⟨rfl,rfl,rfl⟩
 simp [e]
@[simp] def ZG(z:Int):List AV:=[.lit (.int .i64 z)]
@[simp] def Zvj(z:Int):List AV:=[.lit (.int .u8 z)]
@[simp] def Zzr(z:Int):List AV:=[.lit (.int .u32 z)]
@[simp] def ZcF(b:Bool):List AV:=[.lit (.bool b)]
@[simp] def Jm(s:ByteArray):List AV:=[.lit (.string s)]
def YW(x y:Int):Rat:=(x:Rat) / (y:Rat)
def ofQ(z:Int):Rat:=(z:Rat)
theorem Zbr{x y:Int}(hx:-9223372036854775808≤x∧x≤9223372036854775807)(hy:-9223372036854775808≤y∧y≤9223372036854775807)(h0:y≠0):
  ZtE [.lit (.int .i64 x),.lit (.int .i64 y)]=some (.tup [.agg [.lit (.bool (Zd (YW x y)).s),Zc (Zd (YW x y)).l1,Zc (Zd (YW x y)).l2],.lit (.int .i64 0)]):=if_pos ⟨hx,hy,h0⟩
theorem WD{z:Int}(h1:-9223372036854775808≤z)(h2:z≤9223372036854775807):fOf [.lit (.int .i64 z)]=some (.agg [.lit (.bool (Zd (ofQ z)).s),Zc (Zd (ofQ z)).l1,Zc (Zd (ofQ z)).l2]):=ZAL h1 h2
@[simp] theorem Zxf(l:List Rat):Qf 3 (l.map ZpA)=true:=YF (fun x=>by simp) l
@[simp] theorem ZwP(l:List (Int × Rat)):Qf 4 (l.map Zr)=true:=YF (fun x=>by simp) l
@[simp] theorem ZwM(l:List Zf):Qf 4 (l.map Zh)=true:=YF (fun x=>by simp) l
@[simp] theorem Ztt(l:List Int):Qf 1 (l.map ZG)=true:=YF (fun x=>by simp) l
@[simp] theorem Zwi(l:List Int):Qf 1 (l.map Zvj)=true:=YF (fun x=>by simp) l
@[simp] theorem ZwI(l:List Bool):Qf 1 (l.map ZcF)=true:=YF (fun x=>by simp) l
@[simp] theorem Zyc(l:List ByteArray):Qf 1 (l.map Jm)=true:=YF (fun x=>by simp) l
section
variable {α β γ : Type} {P : Program} {O : FuncId → Option Orc} {m N : Nat} {lives : Nat → List Nat} {r : Nat} {C : Code} {M : Nat} {L : List α} {enc : Nat → β → St} {exN exE : Ex}
noncomputable def Zk(P:Program)(O:FuncId→Option Orc)(m N:Nat)(lives:Nat→List Nat)(r:Nat)(C:Code)(e:St):Option (Ex × St):=
 match (match exec P O m N lives big C e with
  | some (.nrm,s')=>UZ m (exec P O m N lives big C) (lives r) 4294967295 s'
  | x=>x) with
 | some (ex,s')=>(match gc m (lives (Zo r)) s' with|some s2=>some (ex,s2)|none=>none)
 | none=>none
theorem Zi{C':Code}{s e:St}(hC:C=C')(hg:gc m (lives r) s=some e):ZpF P O m N lives big r C s=Zk P O m N lives r C' e:=by
 subst hC
 unfold ZpF Zk
 have hb:UZ m (exec P O m N lives big C) (lives r) big s=UZ m (exec P O m N lives big C) (lives r) (4294967295+1) s:=rfl
 rw [hb,UZ,hg]
 dsimp only
 cases exec P O m N lives big C e with
 | none=>rfl
 | some p=>
   obtain ⟨ex,s1⟩:=p
   cases ex <;>rfl
theorem ZiU{live outL:List Nat}{step:St→Option (Ex × St)}{Inv:Nat→β→Prop}{Q:Ex→St→Prop}(hstep:∀i b,i<M→Inv i b→(∃b',Zm m step live (enc i b) (enc (i+1) b')∧Inv (i+1) b')∨(∃ex t,ex≠.nrm∧Zj m step outL (enc i b) ex t∧Q ex t))(hend:∀b,Inv M b→∃ex t,ex≠.nrm∧Zj m step outL (enc M b) ex t∧Q ex t):
  ∀(k i n:Nat) (b:β),i+k=M→k≤n→Inv i b→∃ex s' t,(match step (enc i b) with|some (.nrm,s')=>UZ m step live n s'|x=>x)=some (ex,s')∧gc m outL s'=some t∧Q ex t
 | 0,i,n,b,hi,hn,hI=>by
   obtain rfl:i=M:=by omega
   obtain ⟨ex,t,h0,⟨s',h1,h2⟩,h3⟩:=hend b hI
   refine ⟨ex,s',t,?_,h2,h3⟩
   rw [h1]
   cases ex <;>first|exact absurd rfl h0|rfl
 | k+1,i,n,b,hi,hn,hI=>by
   rcases hstep i b (by omega) hI with ⟨b',⟨s1,h1,h2⟩,h3⟩|⟨ex,t,h0,⟨s',h1,h2⟩,h3⟩
   ·obtain ⟨ex,s',t,h4,h5,h6⟩:=ZiU hstep hend k (i+1) (n-1) b' (by omega) (by omega) h3
    refine ⟨ex,s',t,?_,h5,h6⟩
    rw [h1]
    have e:n=(n-1)+1:=by omega
    rw [e]
    dsimp only
    rw [UZ,h2]
    exact h4
   ·refine ⟨ex,s',t,?_,h2,h3⟩
    rw [h1]
    cases ex <;>first|exact absurd rfl h0|rfl
theorem Q3(Inv:Nat→β→Prop)(Q:Ex→St→Prop)(b:β)(hI:Inv 0 b)(hn:M≤4294967295)(hstep:∀i b,i<M→Inv i b→(∃b',Zm m (exec P O m N lives big C) (lives r) (enc i b) (enc (i+1) b')∧Inv (i+1) b')∨(∃ex t,ex≠.nrm∧Zj m (exec P O m N lives big C) (lives (Zo r)) (enc i b) ex t∧Q ex t))(hend:∀b,Inv M b→∃ex t,ex≠.nrm∧Zj m (exec P O m N lives big C) (lives (Zo r)) (enc M b) ex t∧Q ex t):
  ∃ex t,Zk P O m N lives r C (enc 0 b)=some (ex,t)∧Q ex t:=by
 obtain ⟨ex,s',t,h1,h2,h3⟩:=ZiU hstep hend M 0 4294967295 b (by omega) hn hI
 refine ⟨ex,t,?_,h3⟩
 unfold Zk
 rw [h1]
 simp only [h2]
theorem QJ(Inv:Nat→β→Prop){out:β→St}(b:β)(hI:Inv 0 b)(hn:M≤4294967295)(hN:exN≠.nrm)(hstep:∀i b,i<M→Inv i b→∃b',Zm m (exec P O m N lives big C) (lives r) (enc i b) (enc (i+1) b')∧Inv (i+1) b')(hend:∀b,Inv M b→Zj m (exec P O m N lives big C) (lives (Zo r)) (enc M b) exN (out b)):
  ∃b',Zk P O m N lives r C (enc 0 b)=some (exN,out b')∧Inv M b':=by
 obtain ⟨ex,t,h1,b',rfl,rfl,h3⟩:=Q3 (m:=m) (C:=C) (P:=P) (O:=O) (N:=N) Inv (fun ex t=>∃b',ex=exN∧t=out b'∧Inv M b') b hI hn (fun i b hi hI=>.inl (hstep i b hi hI)) (fun b hI=>⟨exN,out b,hN,hend b hI,b,rfl,rfl,hI⟩)
 exact ⟨b',h1,h3⟩
theorem Zfn {f:Nat→β→α→Except γ β} {out:β→St} {outE:γ→St} {Inv:Nat→β→Prop} (b:β) (hI:Inv 0 b) (hn:L.length≤4294967295) (hN:exN≠.nrm) (hE:exE≠.nrm) (hstep:∀i x b,L[i]?=some x→Inv i b→match f i b x with
   | .ok b'=>Zm m (exec P O m N lives big C) (lives r) (enc i b) (enc (i+1) b')∧Inv (i+1) b'
   | .error c=>Zj m (exec P O m N lives big C) (lives (Zo r)) (enc i b) exE (outE c)) (hend:∀b,Inv L.length b→Zj m (exec P O m N lives big C) (lives (Zo r)) (enc L.length b) exN (out b)):
  Zk P O m N lives r C (enc 0 b)=some (ZrF (XE f 0 b L) exN out exE outE)∧∀b',XE f 0 b L=.ok b'→Inv L.length b':=by
 obtain ⟨ex,t,h1,h2,h3⟩:=Q3 (m:=m) (C:=C) (P:=P) (O:=O) (N:=N) (lives:=lives) (r:=r) (enc:=enc) (M:=L.length) (fun i b'=>Inv i b'∧XE f i b' (L.drop i)=XE f 0 b L)
  (fun ex t=>(ex,t)=ZrF (XE f 0 b L) exN out exE outE∧∀b',XE f 0 b L=.ok b'→Inv L.length b') b ⟨hI,rfl⟩ hn
  (fun i b' hi ⟨hI,hf⟩=>by
   have hx:L[i]?=some L[i]:=List.getElem?_eq_getElem hi
   have hd:L.drop i=L[i]::L.drop (i+1):=List.drop_eq_getElem_cons hi
   have h4:=hstep i _ b' hx hI
   rw [hd,XE] at hf
   split at h4
   ·rename_i b2 he
    rw [he] at hf
    exact .inl ⟨b2,h4.1,h4.2,hf⟩
   ·rename_i c he
    rw [he] at hf
    exact .inr ⟨exE,outE c,hE,h4,by rw [←hf];rfl,fun b' h=>by rw [←hf] at h;cases h⟩)
  (fun b' ⟨hI,hf⟩=>by
   rw [List.drop_length,XE] at hf
   exact ⟨exN,out b',hN,hend b' hI,by rw [←hf];rfl,fun b2 h=>by rw [←hf] at h;cases h;exact hI⟩)
 rw [h1,h2]
 exact ⟨rfl,h3⟩
theorem XM{f:Nat→β→α→β}{out:β→St}{Inv:Nat→β→Prop}(b:β)(hI:Inv 0 b)(hn:L.length≤4294967295)(hN:exN≠.nrm)(hstep:∀i x b,L[i]?=some x→Inv i b→Zm m (exec P O m N lives big C) (lives r) (enc i b) (enc (i+1) (f i b x))∧Inv (i+1) (f i b x))(hend:∀b,Inv L.length b→Zj m (exec P O m N lives big C) (lives (Zo r)) (enc L.length b) exN (out b)):
  Zk P O m N lives r C (enc 0 b)=some (exN,out (VL f 0 b L))∧Inv L.length (VL f 0 b L):=by
 have key:∀(R:List α) (i:Nat) (b:β),XE (γ:=Empty) (fun i b x=>.ok (f i b x)) i b R=.ok (VL f i b R):=fun R=>by
  induction R with
  | nil=>intro i b;rfl
  | cons x R ih=>intro i b;exact ih (i+1) (f i b x)
 have h:=Zfn (γ:=Empty) (f:=fun i b x=>.ok (f i b x)) (exE:=.ret) (outE:=fun c=>c.elim) (P:=P) (O:=O) (m:=m) (N:=N) (lives:=lives) (r:=r) (C:=C) b hI hn hN (fun h=>by cases h) hstep hend
 rw [key] at h
 exact ⟨h.1,h.2 _ rfl⟩
end
theorem Q1{P:Program}{O:FuncId→Option Orc}{m N:Nat}{lives:Nat→List Nat}{r:Nat}{C:Code}{M:Nat}{enc:Nat→St}{p:Nat→Bool}{exN exE:Ex}{out outE:St}(hn:M≤4294967295)(hN:exN≠.nrm)(hE:exE≠.nrm)(hstep:∀i,i<M→(∀j,j<i→p j=true)→(p i=true→Zm m (exec P O m N lives big C) (lives r) (enc i) (enc (i+1)))∧(p i=false→Zj m (exec P O m N lives big C) (lives (Zo r)) (enc i) exE outE))(hend:Zj m (exec P O m N lives big C) (lives (Zo r)) (enc M) exN out):
  Zk P O m N lives r C (enc 0)=some (if ∀i,i<M→p i=true then (exN,out) else (exE,outE)):=by
 obtain ⟨ex,t,h1,h2⟩:=Q3 (β:=Unit) (m:=m) (C:=C) (P:=P) (O:=O) (N:=N) (lives:=lives) (r:=r) (M:=M) (enc:=fun i _=>enc i) (fun i _=>∀j,j<i→p j=true) (fun ex t=>(ex,t)=if ∀i,i<M→p i=true then (exN,out) else (exE,outE)) () (fun j hj=>absurd hj (by omega)) hn
  (fun i b hi hI=>by
   cases hp:p i with
   | true=>exact .inl ⟨(),(hstep i hi hI).1 hp,fun j hj=>by rcases Nat.lt_succ_iff_lt_or_eq.1 hj with h|rfl;exact hI j h;exact hp⟩
   | false=>
     refine .inr ⟨exE,outE,hE,(hstep i hi hI).2 hp,?_⟩
     rw [if_neg]
     intro h
     rw [h i hi] at hp;cases hp)
  (fun b hI=>⟨exN,out,hN,hend,by rw [if_pos hI]⟩)
 rw [h1,h2]
structure RawB (r:Raw):Prop where
 n:Lim r.l1
 d:Lim r.l2
 bn:r.l1.length≤17179869184
 bd:r.l2.length≤17179869184
theorem RawB.few{r:Raw}(h:RawB r):r.few=true:=by
 unfold Raw.few
 rw [Bool.and_eq_true]
 exact ⟨Nat.ble_eq_true_of_le h.bn,Nat.ble_eq_true_of_le h.bd⟩
theorem Zbn{q:Rat}(h:H q≤17179869184):RawB (Zd q):=by
 have a1:(lmb q.num.natAbs).length≤H q:=Nat.le_max_left _ _
 have a2:(QK q.den).length≤H q:=Nat.le_trans (Zb7 _) (Nat.le_max_right _ _)
 exact ⟨Yk _,Zck _,Nat.le_trans a1 h,Nat.le_trans a2 h⟩
theorem Ztd{F:Raw→AV}{r:Raw}(h:RawB r):o1 F [.agg [.lit (.bool r.s),Zc r.l1,Zc r.l2]]=some (F r):=by
 have h1:ZaJ (.agg [.lit (.bool r.s),Zc r.l1,Zc r.l2])=some r:=ZaC h.n h.d
 simp only [o1,h1,h.few,if_true]
theorem Uh{r:Raw}(h:RawB r):Zdn [.agg [.lit (.bool r.s),Zc r.l1,Zc r.l2]]=some (.lit (.bool (decide (QQ r.s r.l1 r.l2)))):=Ztd h
theorem VE{r:Raw}(h:RawB r):Zg7 [.agg [.lit (.bool r.s),Zc r.l1,Zc r.l2]]=some (.lit (.int .i64 (sgR r.q))):=Ztd h
@[simp] def ZrA(r:Raw):List AV:=[.lit (.bool r.s),Zc r.l1,Zc r.l2]
@[simp] def YR(t:Int × Raw):List AV:=[.lit (.int .i64 t.1),.lit (.bool t.2.s),Zc t.2.l1,Zc t.2.l2]
abbrev Yo:=List (Int × Raw) × Raw
@[simp] def Yw(f:Yo):List AV:=[.sl 4 (f.1.map YR),.lit (.bool f.2.s),Zc f.2.l1,Zc f.2.l2]
@[simp] theorem ZxJ(l:List Raw):Qf 3 (l.map ZrA)=true:=YF (fun x=>by simp) l
@[simp] theorem Zv4(l:List (Int × Raw)):Qf 4 (l.map YR)=true:=YF (fun x=>by simp) l
@[simp] theorem Zwf(l:List Yo):Qf 4 (l.map Yw)=true:=YF (fun x=>by simp) l
structure ZC where
 c:List Int
 from_:Int
@[simp] def Ye(g:ZC):List AV:=[.sl 1 (g.c.map ZG),.lit (.int .u64 (g.from_))]
@[simp] def ZCg(g:ZC):AV:=.agg [.sl 1 (g.c.map ZG),.lit (.int .u64 (g.from_))]
@[simp] theorem ZxK(l:List ZC):Qf 2 (l.map Ye)=true:=YF (fun x=>by simp) l
structure Zt7 where
 Neg:Bool
 Mag:List Nat
@[simp] def ZAK(g:Zt7):List AV:=[.lit (.bool g.Neg),Zc g.Mag]
@[simp] def ZCy(g:Zt7):AV:=.agg [.lit (.bool g.Neg),Zc g.Mag]
@[simp] theorem Zyi(l:List Zt7):Qf 2 (l.map ZAK)=true:=YF (fun x=>by simp) l
structure ZK where
 Vars:Int
 Rows:List Zf
 Objective:Zf
@[simp] def ZpG(g:ZK):List AV:=[.lit (.int .i64 (g.Vars)),.sl 4 (g.Rows.map Zh),.sl 4 (g.Objective.1.map Zr),.lit (.bool (Zd g.Objective.2).s),Zc (Zd g.Objective.2).l1,Zc (Zd g.Objective.2).l2]
@[simp] def XY(g:ZK):AV:=.agg [.lit (.int .i64 (g.Vars)),.sl 4 (g.Rows.map Zh),.sl 4 (g.Objective.1.map Zr),.lit (.bool (Zd g.Objective.2).s),Zc (Zd g.Objective.2).l1,Zc (Zd g.Objective.2).l2]
@[simp] theorem Zsl(l:List ZK):Qf 6 (l.map ZpG)=true:=YF (fun x=>by simp) l
structure Za7 where
 Vars:Int
 Rows:List Yo
 Objective:Yo
@[simp] def Zkg(g:Za7):List AV:=[.lit (.int .i64 (g.Vars)),.sl 4 (g.Rows.map Yw),.sl 4 (g.Objective.1.map YR),.lit (.bool g.Objective.2.s),Zc g.Objective.2.l1,Zc g.Objective.2.l2]
@[simp] def ZwU(g:Za7):AV:=.agg [.lit (.int .i64 (g.Vars)),.sl 4 (g.Rows.map Yw),.sl 4 (g.Objective.1.map YR),.lit (.bool g.Objective.2.s),Zc g.Objective.2.l1,Zc g.Objective.2.l2]
@[simp] theorem ZqV(l:List Za7):Qf 6 (l.map Zkg)=true:=YF (fun x=>by simp) l
end
end Go.Proofs.YtdaonnnlgfhlaaaGreatDoor
