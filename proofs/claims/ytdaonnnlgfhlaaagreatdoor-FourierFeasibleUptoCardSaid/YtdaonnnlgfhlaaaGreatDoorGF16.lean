import Derived.Test.YtdaonnnlgfhlaaaGreatDoorGF15
import Derived.Test.YtdaonnnlgfhlaaaGreatDoorGF13
import Derived.Test.YtdaonnnlgfhlaaaGreatDoorGF8
set_option linter.all false
set_option maxRecDepth 100000
namespace Go.Proofs.YtdaonnnlgfhlaaaGreatDoor
section
open Go.RowKit
def livesT:List (Nat × List (Nat × List Nat)):=[(9,[(4,[1,3]),(1000004,[2])]),(13,[(4,[2,3,5]),(1000004,[4])]),(17,[(6,[1,6,7,8,27,28,29,ph 6 0 28 4]),(16,[1,6,8,53,54,55]),(20,[1,6,8,12,13,53,54,55,62,63,64]),(1000006,[1,6,7,8]),(1000016,[6]),(1000020,[1,6,8,53,54,55])]),(18,[(5,[0,1,6,7,8,9]),(16,[1,6,7,8,10]),(19,[1,6,7,8,10,11]),(1000005,[1,4,5,6,7,8]),(1000016,[6]),(1000019,[1,6,7,8,10])]),(19,[(4,[0,1,5]),(1000004,[4])]),(21,[(2,[1,2,5]),(1000002,[2,4])]),(22,[(2,[1,2,4,5]),(1000002,[4])]),(29,[(8,[3,4,6,7,8]),(16,[3,4,7,11,12]),(20,[3,4,7,11,12,13,14]),(1000008,[2,3,4,7]),(1000016,[2,3,4,7]),(1000020,[3,4,7,11,12,13])]),(30,[(9,[2,7,12,13,56,57,58]),(1000009,[6,7,8,12,13])]),(41,[(3,[2,3,4,5,6,ph 5 0 68 4]),(1000003,[4,5])]),(43,[(4,[0,5]),(1000004,[4])]),(44,[(2,[1,7,8,9]),(1000002,[4])]),(45,[(2,[1,4,8,9,10]),(1000002,[4])]),(49,[(5,[0,5,6]),(1000005,[0,4,5])]),(50,[(3,[3,4,5,6]),(1000003,[4,5])]),(54,[(3,[0,1,5,6]),(7,[0,1,5,6,7,8]),(1000003,[5]),(1000007,[0,1,5,6])]),(58,[(2,[0,11,12]),(11,[8,28,29,30,ph 8 0 28 4]),(1000002,[0,4,5]),(1000011,[8])]),(59,[(2,[0,1,5]),(1000002,[1,4])]),(60,[(3,[0,1,6,7]),(7,[1,6,8]),(1000003,[1,6]),(1000007,[4,5,6])]),(63,[(4,[1,2,6,7,8]),(18,[1,6,7,14,15]),(24,[1,6,7,14,16]),(1000004,[1,4,5,6,7]),(1000018,[1,4,5,6,7,14]),(1000024,[6])]),(64,[(3,[0,1,5,6,7]),(1000003,[5,6])]),(65,[(3,[0,1,2,8,9]),(8,[0,1,2,8,10]),(11,[0,1,2,8,10,11]),(16,[0,1,2,8,10,11,12,13]),(1000003,[0,1,2,8]),(1000008,[6,7,8]),(1000011,[0,1,2,6,7,8,10]),(1000016,[0,1,2,8,10,11,12])]),(66,[(4,[0,1,5,6,7,8,9,10,ph 8 1 0 0,ph 8 2 0 0,ph 9 1 0 0,ph 9 2 0 0]),(1000004,[4,5,6,7,8,9])]),(67,[(2,[1,2,8,9,10]),(1000002,[2,4])]),(76,[(6,[1,5,29,30,31]),(10,[1,5,6,7,8,29,30,31,36,37,38]),(1000006,[5]),(1000010,[1,5,6,8,29,30,31])]),(78,[(3,[5,6,7,8,9,ph 7 0 68 4]),(1000003,[6,7])]),(84,[(4,[1,3,4,11,12,13]),(1000004,[1,3,4])]),(86,[(4,[1,3,5,6,7,8,9]),(1000004,[1,3,5,6,7,8])]),(88,[(2,[0,1]),(1000002,[0])]),(89,[(9,[0,1,11,12,13]),(1000009,[11,12])]),(91,[(2,[0,3]),(1000002,[0,3])]),(93,[(1,[0,1]),(1000001,[0])]),(94,[(3,[0,3,4]),(7,[0,3,5]),(1000003,[0,3]),(1000007,[2])]),(95,[(2,[0,3]),(1000002,[3])]),(100,[(3,[0,4,6,7,ph 6 0 0 0]),(1000003,[4,5,6])]),(107,[(2,[0,1]),(10,[11,13]),(1000002,[0,1]),(1000010,[11])]),(108,[(13,[9,10,11,12,13]),(1000013,[9,10,12])]),(109,[(2,[0,3]),(1000002,[0,3])]),(113,[(4,[0,1,5,6,7]),(1000004,[5,6])]),(114,[(6,[0,1,6,7,8]),(1000006,[6])]),(122,[(6,[3,4]),(1000006,[3])]),(123,[(4,[0,1,5,6,7]),(1000004,[5,6])]),(124,[(2,[0,1,5]),(1000002,[4])]),(127,[(7,[0,1,5]),(1000007,[4])]),(131,[(6,[4,12,13,14]),(1000006,[4])]),(132,[(4,[0,1,6,7,8]),(1000004,[6,7])]),(134,[(3,[1,5,13,14,15]),(1000003,[5])]),(135,[(3,[0,1,2,7,8,15,16,17]),(17,[0,1,2,7,70,71,72]),(1000003,[0,1,2,7,8]),(1000017,[0,1,2,7])]),(136,[(4,[0,1,5,7,8]),(1000004,[7])]),(137,[(9,[0,1,6,30,31,32]),(1000009,[6])]),(141,[(5,[0,3,4]),(1000005,[4])]),(147,[(38,[7,8,9]),(1000038,[9])]),(148,[(1,[0,2,3]),(1000001,[])]),(149,[(12,[0,1,5,39,40,41]),(22,[1,8,63,64,65]),(1000012,[0,1,5]),(1000022,[8])]),(152,[(1,[0,1,4]),(1000001,[0,1,4])]),(153,[(11,[0,1,3,4,10,11,12,13,14,15,16]),(18,[0,1,3,4,10,11,12,13,17]),(1000011,[0,1,3,4,10,11,12,13]),(1000018,[0,1,3,4,10,11,12,13])])]
def Za(f:FuncId):Nat→List Nat:=lv ((livesT.lookup f).getD [])
def modesT:List (Nat × (List Bool × Bool)):=[(46,([true,false],false)),(49,([true,false],true)),(81,([true,false],true)),(94,([true],false)),(112,([true,false,false],true)),(115,([false,false,true],false)),(116,([true],false)),(117,([true,false],false)),(120,([true],false)),(135,([true,false,false],false)),(139,([true],false)),(148,([true],false)),(152,([true,false],false)),(153,([true,false,false,false,false],true)),(157,([true,false],false)),(166,([true,false],false))]
noncomputable def Ym(f:FuncId):Func:=(Tryz.prog.funcs[f]?).getD default
def Wc(f:FuncId):Bool:=((modesT.lookup f).getD ([],false)).2
noncomputable def tab:Nat→FuncId→Option Orc
 | 0,f=>Zhp f
 | n+1,f=>match Zhp f with
   | some x=>some x
   | none=>match Xw Tryz.prog f with
     | true=>(match modesT.lookup f with
       | some (ms,k)=>some (.lin ms (fnL Tryz.prog (tab n) (Za f) big (Ym f) (Wc f)))
       | none=>some (.pure (fnP Tryz.prog (tab n) (Za f) big (Ym f))))
     | false=>none
theorem Ul{f:FuncId}(h:Xw Tryz.prog f=true): Tryz.prog.funcs[f]?=some (Ym f):=by
 unfold Xw at h
 unfold Ym
 split at h
 ·rename_i fn hf;rw [hf];rfl
 ·cases h
theorem Zex:∀n,OrcOk Tryz.prog (tab n)
 | 0=>orc0_ok
 | n+1=>by
   have key:∀f x,tab (n+1) f=some x→(Zhp f=some x)∨(Xw Tryz.prog f=true∧((∃(ms:List Bool) (k:Bool),x=.lin ms (fnL Tryz.prog (tab n) (Za f) big (Ym f) (Wc f)))∨x=.pure (fnP Tryz.prog (tab n) (Za f) big (Ym f)))):=fun f x h=>by
    unfold tab at h
    split at h
    ·rename_i y hy;cases h;exact .inl hy
    ·split at h
     ·rename_i hp
      split at h
      ·cases h;exact .inr ⟨hp,.inl ⟨_,false,rfl⟩⟩
      ·cases h;exact .inr ⟨hp,.inr rfl⟩
     ·cases h
   refine ⟨fun f g h=>?_,fun f ms g h=>?_⟩
   ·rcases key f _ h with h|⟨hp,⟨ms,k,h⟩|h⟩
    ·exact orc0_ok.pure f g h
    ·cases h
    ·cases h
     exact ⟨hp,fun args r hr=>ZeZ (Zex n) mixed (Ul hp) (Uf hp (Ul hp)) hr⟩
   ·rcases key f _ h with h|⟨hp,⟨ms,k,h⟩|h⟩
    ·exact orc0_ok.lin f ms g h
    ·cases h
     exact ⟨hp,fun bin args r outs hr=>Zs1 (Zex n) mixed (Ul hp) (Uf hp (Ul hp)) hr⟩
    ·cases h
noncomputable def run(n:Nat)(f:FuncId)(args:List AV):Option AV:=fnP Tryz.prog (tab n) (Za f) big (Ym f) args
noncomputable def Zp(n:Nat)(f:FuncId)(args:List AV)(bin:List AB):Option (AV × List (Nat × AB)):=fnL Tryz.prog (tab n) (Za f) big (Ym f) (Wc f) args bin
theorem Zu{n:Nat}{f:FuncId}(h0:Zhp f=none)(hp:Xw Tryz.prog f=true)(hm:modesT.lookup f=none):tab (n+1) f=some (.pure (run n f)):=by
 unfold tab
 rw [h0]
 simp only [hp,hm]
 rfl
theorem Wr{n:Nat}{f:FuncId}{ms:List Bool}{k:Bool}(h0:Zhp f=none)(hp:Xw Tryz.prog f=true)(hm:modesT.lookup f=some (ms,k)):tab (n+1) f=some (.lin ms (Zp n f)):=by
 unfold tab
 rw [h0]
 simp only [hp,hm]
 rfl
theorem ZI{f:FuncId}{x:Orc}(h:Zhp f=some x):∀n,tab n f=some x
 | 0=>h
 | n+1=>by unfold tab;rw [h]
@[simp] theorem ZCC:Ym 6= Tryz.f6:=by kernel_rfl
@[simp] theorem tb_8(n:Nat):tab (n+1) 8=some (.pure (run n 8)):=Zu (by kernel_rfl) (by kernel_rfl) (by kernel_rfl)
@[simp] theorem ZCu:Ym 9= Tryz.f9:=by kernel_rfl
@[simp] theorem ZAn:Za 9 4=[1,3]:=by kernel_rfl
@[simp] theorem Zsb:Za 9 1000004=[2]:=by kernel_rfl
@[simp] theorem tb_9(n:Nat):tab (n+1) 9=some (.pure (run n 9)):=Zu (by kernel_rfl) (by kernel_rfl) (by kernel_rfl)
@[simp] theorem ZBW:Ym 11= Tryz.f11:=by kernel_rfl
@[simp] theorem tb_11(n:Nat):tab (n+1) 11=some (.pure (run n 11)):=Zu (by kernel_rfl) (by kernel_rfl) (by kernel_rfl)
@[simp] theorem ZBD:Ym 13= Tryz.f13:=by kernel_rfl
@[simp] theorem ZzE:Za 13 4=[2,3,5]:=by kernel_rfl
@[simp] theorem Zqx:Za 13 1000004=[4]:=by kernel_rfl
@[simp] theorem tb_13(n:Nat):tab (n+1) 13=some (.pure (run n 13)):=Zu (by kernel_rfl) (by kernel_rfl) (by kernel_rfl)
@[simp] theorem ZBK:Ym 14= Tryz.f14:=by kernel_rfl
@[simp] theorem tb_14(n:Nat):tab (n+1) 14=some (.pure (run n 14)):=Zu (by kernel_rfl) (by kernel_rfl) (by kernel_rfl)
@[simp] theorem ZCb:Ym 16= Tryz.f16:=by kernel_rfl
@[simp] theorem tb_16(n:Nat):tab (n+1) 16=some (.pure (run n 16)):=Zu (by kernel_rfl) (by kernel_rfl) (by kernel_rfl)
@[simp] theorem ZBT:Ym 17= Tryz.f17:=by kernel_rfl
@[simp] theorem ZzV:Za 17 6=[1,6,7,8,27,28,29,ph 6 0 28 4]:=by kernel_rfl
@[simp] theorem Zw7:Za 17 16=[1,6,8,53,54,55]:=by kernel_rfl
@[simp] theorem ZyN:Za 17 20=[1,6,8,12,13,53,54,55,62,63,64]:=by kernel_rfl
@[simp] theorem ZqJ:Za 17 1000006=[1,6,7,8]:=by kernel_rfl
@[simp] theorem Zqm:Za 17 1000016=[6]:=by kernel_rfl
@[simp] theorem ZqH:Za 17 1000020=[1,6,8,53,54,55]:=by kernel_rfl
@[simp] theorem tb_17(n:Nat):tab (n+1) 17=some (.pure (run n 17)):=Zu (by kernel_rfl) (by kernel_rfl) (by kernel_rfl)
@[simp] theorem ZBN:Ym 18= Tryz.f18:=by kernel_rfl
@[simp] theorem Zzy:Za 18 5=[0,1,6,7,8,9]:=by kernel_rfl
@[simp] theorem ZyW:Za 18 16=[1,6,7,8,10]:=by kernel_rfl
@[simp] theorem Zx0:Za 18 19=[1,6,7,8,10,11]:=by kernel_rfl
@[simp] theorem Zqz:Za 18 1000005=[1,4,5,6,7,8]:=by kernel_rfl
@[simp] theorem Zqr:Za 18 1000016=[6]:=by kernel_rfl
@[simp] theorem ZqX:Za 18 1000019=[1,6,7,8,10]:=by kernel_rfl
@[simp] theorem tb_18(n:Nat):tab (n+1) 18=some (.pure (run n 18)):=Zu (by kernel_rfl) (by kernel_rfl) (by kernel_rfl)
@[simp] theorem ZBj:Ym 21= Tryz.f21:=by kernel_rfl
@[simp] theorem Zzf:Za 21 2=[1,2,5]:=by kernel_rfl
@[simp] theorem ZqM:Za 21 1000002=[2,4]:=by kernel_rfl
@[simp] theorem tb_21(n:Nat):tab (n+1) 21=some (.pure (run n 21)):=Zu (by kernel_rfl) (by kernel_rfl) (by kernel_rfl)
@[simp] theorem ZBe:Ym 22= Tryz.f22:=by kernel_rfl
@[simp] theorem Zz2:Za 22 2=[1,2,4,5]:=by kernel_rfl
@[simp] theorem ZqG:Za 22 1000002=[4]:=by kernel_rfl
@[simp] theorem tb_22(n:Nat):tab (n+1) 22=some (.pure (run n 22)):=Zu (by kernel_rfl) (by kernel_rfl) (by kernel_rfl)
@[simp] theorem ZBC:Ym 23= Tryz.f23:=by kernel_rfl
@[simp] theorem tb_23(n:Nat):tab (n+1) 23=some (.pure (run n 23)):=Zu (by kernel_rfl) (by kernel_rfl) (by kernel_rfl)
@[simp] theorem ZBo:Ym 27= Tryz.f27:=by kernel_rfl
@[simp] theorem tb_27(n:Nat):tab (n+1) 27=some (.pure (run n 27)):=Zu (by kernel_rfl) (by kernel_rfl) (by kernel_rfl)
@[simp] theorem ZBL:Ym 28= Tryz.f28:=by kernel_rfl
@[simp] theorem tb_28(n:Nat):tab (n+1) 28=some (.pure (run n 28)):=Zu (by kernel_rfl) (by kernel_rfl) (by kernel_rfl)
@[simp] theorem ZBn:Ym 29= Tryz.f29:=by kernel_rfl
@[simp] theorem Zy4:Za 29 8=[3,4,6,7,8]:=by kernel_rfl
@[simp] theorem Zys:Za 29 16=[3,4,7,11,12]:=by kernel_rfl
@[simp] theorem Zxi:Za 29 20=[3,4,7,11,12,13,14]:=by kernel_rfl
@[simp] theorem ZqN:Za 29 1000008=[2,3,4,7]:=by kernel_rfl
@[simp] theorem ZqP:Za 29 1000016=[2,3,4,7]:=by kernel_rfl
@[simp] theorem ZqU:Za 29 1000020=[3,4,7,11,12,13]:=by kernel_rfl
@[simp] theorem tb_29(n:Nat):tab (n+1) 29=some (.pure (run n 29)):=Zu (by kernel_rfl) (by kernel_rfl) (by kernel_rfl)
@[simp] theorem ZBO:Ym 33= Tryz.f33:=by kernel_rfl
@[simp] theorem tb_33(n:Nat):tab (n+1) 33=some (.pure (run n 33)):=Zu (by kernel_rfl) (by kernel_rfl) (by kernel_rfl)
@[simp] theorem ZB2:Ym 36= Tryz.f36:=by kernel_rfl
@[simp] theorem tb_36(n:Nat):tab (n+1) 36=some (.pure (run n 36)):=Zu (by kernel_rfl) (by kernel_rfl) (by kernel_rfl)
@[simp] theorem ZB9:Ym 37= Tryz.f37:=by kernel_rfl
@[simp] theorem tb_37(n:Nat):tab (n+1) 37=some (.pure (run n 37)):=Zu (by kernel_rfl) (by kernel_rfl) (by kernel_rfl)
@[simp] theorem ZBt:Ym 41= Tryz.f41:=by kernel_rfl
@[simp] theorem ZAa:Za 41 3=[2,3,4,5,6,ph 5 0 68 4]:=by kernel_rfl
@[simp] theorem Zqs:Za 41 1000003=[4,5]:=by kernel_rfl
@[simp] theorem tb_41(n:Nat):tab (n+1) 41=some (.pure (run n 41)):=Zu (by kernel_rfl) (by kernel_rfl) (by kernel_rfl)
@[simp] theorem ZBF:Ym 43= Tryz.f43:=by kernel_rfl
@[simp] theorem Zz9:Za 43 4=[0,5]:=by kernel_rfl
@[simp] theorem Zqk:Za 43 1000004=[4]:=by kernel_rfl
@[simp] theorem tb_43(n:Nat):tab (n+1) 43=some (.pure (run n 43)):=Zu (by kernel_rfl) (by kernel_rfl) (by kernel_rfl)
@[simp] theorem ZA9:Ym 44= Tryz.f44:=by kernel_rfl
@[simp] theorem Zz5:Za 44 2=[1,7,8,9]:=by kernel_rfl
@[simp] theorem ZqK:Za 44 1000002=[4]:=by kernel_rfl
@[simp] theorem tb_44(n:Nat):tab (n+1) 44=some (.pure (run n 44)):=Zu (by kernel_rfl) (by kernel_rfl) (by kernel_rfl)
@[simp] theorem ZBy:Ym 45= Tryz.f45:=by kernel_rfl
@[simp] theorem Zzb:Za 45 2=[1,4,8,9,10]:=by kernel_rfl
@[simp] theorem Zqn:Za 45 1000002=[4]:=by kernel_rfl
@[simp] theorem tb_45(n:Nat):tab (n+1) 45=some (.pure (run n 45)):=Zu (by kernel_rfl) (by kernel_rfl) (by kernel_rfl)
@[simp] theorem ZBI:Ym 46= Tryz.f46:=by kernel_rfl
@[simp] theorem tb_46(n:Nat):tab (n+1) 46=some (.lin [true,false] (Zp n 46)):=Wr (k:=false) (by kernel_rfl) (by kernel_rfl) (by kernel_rfl)
@[simp] theorem ZBA:Wc 46=false:=by kernel_rfl
@[simp] theorem ZBg:Ym 48= Tryz.f48:=by kernel_rfl
@[simp] theorem tb_48(n:Nat):tab (n+1) 48=some (.pure (run n 48)):=Zu (by kernel_rfl) (by kernel_rfl) (by kernel_rfl)
@[simp] theorem ZB5:Ym 49= Tryz.f49:=by kernel_rfl
@[simp] theorem Zzq:Za 49 5=[0,5,6]:=by kernel_rfl
@[simp] theorem ZqT:Za 49 1000005=[0,4,5]:=by kernel_rfl
@[simp] theorem tb_49(n:Nat):tab (n+1) 49=some (.lin [true,false] (Zp n 49)):=Wr (k:=true) (by kernel_rfl) (by kernel_rfl) (by kernel_rfl)
@[simp] theorem ZB3:Wc 49=true:=by kernel_rfl
@[simp] theorem ZBQ:Ym 50= Tryz.f50:=by kernel_rfl
@[simp] theorem Zzh:Za 50 3=[3,4,5,6]:=by kernel_rfl
@[simp] theorem Zqp:Za 50 1000003=[4,5]:=by kernel_rfl
@[simp] theorem tb_50(n:Nat):tab (n+1) 50=some (.pure (run n 50)):=Zu (by kernel_rfl) (by kernel_rfl) (by kernel_rfl)
@[simp] theorem tb_53(n:Nat):tab (n+1) 53=some (.pure (oQt)):=ZI rfl _
@[simp] theorem tb_54(n:Nat):tab (n+1) 54=some (.pure (oN2 fun x y=>Zc (lmb (val x*val y)))):=ZI rfl _
@[simp] theorem tb_55(n:Nat):tab (n+1) 55=some (.pure (oN1 (fun _=>true) fun x=>Zc (lmb (dn x)))):=ZI rfl _
@[simp] theorem ZBJ:Ym 58= Tryz.f58:=by kernel_rfl
@[simp] theorem Zze:Za 58 2=[0,11,12]:=by kernel_rfl
@[simp] theorem Zyf:Za 58 11=[8,28,29,30,ph 8 0 28 4]:=by kernel_rfl
@[simp] theorem Zqw:Za 58 1000002=[0,4,5]:=by kernel_rfl
@[simp] theorem ZqO:Za 58 1000011=[8]:=by kernel_rfl
@[simp] theorem tb_58(n:Nat):tab (n+1) 58=some (.pure (run n 58)):=Zu (by kernel_rfl) (by kernel_rfl) (by kernel_rfl)
@[simp] theorem ZBl:Ym 59= Tryz.f59:=by kernel_rfl
@[simp] theorem Zz4:Za 59 2=[0,1,5]:=by kernel_rfl
@[simp] theorem Zqo:Za 59 1000002=[1,4]:=by kernel_rfl
@[simp] theorem tb_59(n:Nat):tab (n+1) 59=some (.pure (run n 59)):=Zu (by kernel_rfl) (by kernel_rfl) (by kernel_rfl)
@[simp] theorem ZBY:Ym 60= Tryz.f60:=by kernel_rfl
@[simp] theorem Zzp:Za 60 3=[0,1,6,7]:=by kernel_rfl
@[simp] theorem ZzS:Za 60 7=[1,6,8]:=by kernel_rfl
@[simp] theorem Zqv:Za 60 1000003=[1,6]:=by kernel_rfl
@[simp] theorem ZqC:Za 60 1000007=[4,5,6]:=by kernel_rfl
@[simp] theorem tb_60(n:Nat):tab (n+1) 60=some (.pure (run n 60)):=Zu (by kernel_rfl) (by kernel_rfl) (by kernel_rfl)
@[simp] theorem ZBB:Ym 61= Tryz.f61:=by kernel_rfl
@[simp] theorem tb_61(n:Nat):tab (n+1) 61=some (.pure (run n 61)):=Zu (by kernel_rfl) (by kernel_rfl) (by kernel_rfl)
@[simp] theorem ZBR:Ym 62= Tryz.f62:=by kernel_rfl
@[simp] theorem tb_62(n:Nat):tab (n+1) 62=some (.pure (run n 62)):=Zu (by kernel_rfl) (by kernel_rfl) (by kernel_rfl)
@[simp] theorem ZBr:Ym 63= Tryz.f63:=by kernel_rfl
@[simp] theorem Zzc:Za 63 4=[1,2,6,7,8]:=by kernel_rfl
@[simp] theorem ZyB:Za 63 18=[1,6,7,14,15]:=by kernel_rfl
@[simp] theorem Zym:Za 63 24=[1,6,7,14,16]:=by kernel_rfl
@[simp] theorem Zqu:Za 63 1000004=[1,4,5,6,7]:=by kernel_rfl
@[simp] theorem ZqB:Za 63 1000018=[1,4,5,6,7,14]:=by kernel_rfl
@[simp] theorem Zqt:Za 63 1000024=[6]:=by kernel_rfl
@[simp] theorem tb_63(n:Nat):tab (n+1) 63=some (.pure (run n 63)):=Zu (by kernel_rfl) (by kernel_rfl) (by kernel_rfl)
@[simp] theorem ZBG:Ym 64= Tryz.f64:=by kernel_rfl
@[simp] theorem Zz7:Za 64 3=[0,1,5,6,7]:=by kernel_rfl
@[simp] theorem ZqZ:Za 64 1000003=[5,6]:=by kernel_rfl
@[simp] theorem tb_64(n:Nat):tab (n+1) 64=some (.pure (run n 64)):=Zu (by kernel_rfl) (by kernel_rfl) (by kernel_rfl)
@[simp] theorem ZBP:Ym 65= Tryz.f65:=by kernel_rfl
@[simp] theorem Zz1:Za 65 3=[0,1,2,8,9]:=by kernel_rfl
@[simp] theorem Zzi:Za 65 8=[0,1,2,8,10]:=by kernel_rfl
@[simp] theorem Zx3:Za 65 11=[0,1,2,8,10,11]:=by kernel_rfl
@[simp] theorem ZyC:Za 65 16=[0,1,2,8,10,11,12,13]:=by kernel_rfl
@[simp] theorem Zqy:Za 65 1000003=[0,1,2,8]:=by kernel_rfl
@[simp] theorem ZqE:Za 65 1000008=[6,7,8]:=by kernel_rfl
@[simp] theorem Zql:Za 65 1000011=[0,1,2,6,7,8,10]:=by kernel_rfl
@[simp] theorem ZqL:Za 65 1000016=[0,1,2,8,10,11,12]:=by kernel_rfl
@[simp] theorem tb_65(n:Nat):tab (n+1) 65=some (.pure (run n 65)):=Zu (by kernel_rfl) (by kernel_rfl) (by kernel_rfl)
@[simp] theorem ZBf:Ym 66= Tryz.f66:=by kernel_rfl
@[simp] theorem Zzs:Za 66 4=[0,1,5,6,7,8,9,10,ph 8 1 0 0,ph 8 2 0 0,ph 9 1 0 0,ph 9 2 0 0]:=by kernel_rfl
@[simp] theorem ZqQ:Za 66 1000004=[4,5,6,7,8,9]:=by kernel_rfl
@[simp] theorem tb_66(n:Nat):tab (n+1) 66=some (.pure (run n 66)):=Zu (by kernel_rfl) (by kernel_rfl) (by kernel_rfl)
@[simp] theorem ZBw:Ym 67= Tryz.f67:=by kernel_rfl
@[simp] theorem Zz3:Za 67 2=[1,2,8,9,10]:=by kernel_rfl
@[simp] theorem ZqD:Za 67 1000002=[2,4]:=by kernel_rfl
@[simp] theorem tb_67(n:Nat):tab (n+1) 67=some (.pure (run n 67)):=Zu (by kernel_rfl) (by kernel_rfl) (by kernel_rfl)
@[simp] theorem ZBp:Ym 68= Tryz.f68:=by kernel_rfl
@[simp] theorem tb_75(n:Nat):tab (n+1) 75=some (.pure (oQt)):=ZI rfl _
@[simp] theorem tb_76(n:Nat):tab (n+1) 76=some (.pure (oN2 fun x y=>Zc (lmb (val x*val y)))):=ZI rfl _
@[simp] theorem tb_77(n:Nat):tab (n+1) 77=some (.pure (o1 fun x=>Zc (unL x.l2))):=ZI rfl _
@[simp] theorem ZBm:Ym 78= Tryz.f78:=by kernel_rfl
@[simp] theorem ZAb:Za 78 3=[5,6,7,8,9,ph 7 0 68 4]:=by kernel_rfl
@[simp] theorem ZqR:Za 78 1000003=[6,7]:=by kernel_rfl
@[simp] theorem tb_78(n:Nat):tab (n+1) 78=some (.pure (run n 78)):=Zu (by kernel_rfl) (by kernel_rfl) (by kernel_rfl)
@[simp] theorem ZB4:Ym 81= Tryz.f81:=by kernel_rfl
@[simp] theorem tb_81(n:Nat):tab (n+1) 81=some (.lin [true,false] (Zp n 81)):=Wr (k:=true) (by kernel_rfl) (by kernel_rfl) (by kernel_rfl)
@[simp] theorem ZBz:Wc 81=true:=by kernel_rfl
@[simp] theorem ZBH:Ym 83= Tryz.f83:=by kernel_rfl
@[simp] theorem tb_83(n:Nat):tab (n+1) 83=some (.pure (run n 83)):=Zu (by kernel_rfl) (by kernel_rfl) (by kernel_rfl)
@[simp] theorem ZCa:Ym 84= Tryz.f84:=by kernel_rfl
@[simp] theorem Zy8:Za 84 4=[1,3,4,11,12,13]:=by kernel_rfl
@[simp] theorem ZqW:Za 84 1000004=[1,3,4]:=by kernel_rfl
@[simp] theorem tb_84(n:Nat):tab (n+1) 84=some (.pure (run n 84)):=Zu (by kernel_rfl) (by kernel_rfl) (by kernel_rfl)
@[simp] theorem ZA8:Ym 86= Tryz.f86:=by kernel_rfl
@[simp] theorem Zza:Za 86 4=[1,3,5,6,7,8,9]:=by kernel_rfl
@[simp] theorem ZqA:Za 86 1000004=[1,3,5,6,7,8]:=by kernel_rfl
@[simp] theorem tb_86(n:Nat):tab (n+1) 86=some (.pure (run n 86)):=Zu (by kernel_rfl) (by kernel_rfl) (by kernel_rfl)
@[simp] theorem tb_87(n:Nat):tab (n+1) 87=some (.pure (oU fun k=>Zc (lmb k))):=ZI rfl _
@[simp] theorem tb_89(n:Nat):tab (n+1) 89=some (.pure (oND fun x y=>.tup [Zc (lmb (val x / val y)),Zc (lmb (val x % val y)),.lit (.int .i64 0)])):=ZI rfl _
@[simp] theorem tb_91(n:Nat):tab (n+1) 91=some (.pure (oN1 (fun _=>true) fun x=>Zc (lmb (val x)))):=ZI rfl _
@[simp] theorem ZBi:Ym 92= Tryz.f92:=by kernel_rfl
@[simp] theorem tb_92(n:Nat):tab (n+1) 92=some (.pure (run n 92)):=Zu (by kernel_rfl) (by kernel_rfl) (by kernel_rfl)
@[simp] theorem ZB6:Ym 93= Tryz.f93:=by kernel_rfl
@[simp] theorem Zzk:Za 93 1=[0,1]:=by kernel_rfl
@[simp] theorem Zqq:Za 93 1000001=[0]:=by kernel_rfl
@[simp] theorem tb_93(n:Nat):tab (n+1) 93=some (.pure (run n 93)):=Zu (by kernel_rfl) (by kernel_rfl) (by kernel_rfl)
@[simp] theorem ZB8:Ym 94= Tryz.f94:=by kernel_rfl
@[simp] theorem Zz8:Za 94 3=[0,3,4]:=by kernel_rfl
@[simp] theorem ZzM:Za 94 7=[0,3,5]:=by kernel_rfl
@[simp] theorem ZqI:Za 94 1000003=[0,3]:=by kernel_rfl
@[simp] theorem ZqS:Za 94 1000007=[2]:=by kernel_rfl
@[simp] theorem tb_94(n:Nat):tab (n+1) 94=some (.lin [true] (Zp n 94)):=Wr (k:=false) (by kernel_rfl) (by kernel_rfl) (by kernel_rfl)
@[simp] theorem ZBX:Wc 94=false:=by kernel_rfl
@[simp] theorem ZB1:Ym 95= Tryz.f95:=by kernel_rfl
@[simp] theorem ZzO:Za 95 2=[0,3]:=by kernel_rfl
@[simp] theorem ZqY:Za 95 1000002=[3]:=by kernel_rfl
@[simp] theorem tb_95(n:Nat):tab (n+1) 95=some (.pure (run n 95)):=Zu (by kernel_rfl) (by kernel_rfl) (by kernel_rfl)
@[simp] theorem tb_102(n:Nat):tab (n+1) 102=some (.pure (oU fun k=>Zc (lmb k))):=ZI rfl _
@[simp] theorem tb_105(n:Nat):tab (n+1) 105=some (.pure (oN1 (fun _=>true) fun x=>Zc (lmb (val x)))):=ZI rfl _
@[simp] theorem tb_108(n:Nat):tab (n+1) 108=some (.pure (oND fun x y=>.tup [Zc (lmb (val x / val y)),Zc (lmb (val x % val y)),.lit (.int .i64 0)])):=ZI rfl _
@[simp] theorem ZAq:Ym 112= Tryz.f112:=by kernel_rfl
@[simp] theorem tb_112(n:Nat):tab (n+1) 112=some (.lin [true,false,false] (Zp n 112)):=Wr (k:=true) (by kernel_rfl) (by kernel_rfl) (by kernel_rfl)
@[simp] theorem ZAp:Wc 112=true:=by kernel_rfl
@[simp] theorem tb_113(n:Nat):tab (n+1) 113=some (.pure (oN2 fun x y=>Zc (lmb (val x+val y)))):=ZI rfl _
@[simp] theorem ZAT:Ym 115= Tryz.f115:=by kernel_rfl
@[simp] theorem tb_115(n:Nat):tab (n+1) 115=some (.lin [false,false,true] (Zp n 115)):=Wr (k:=false) (by kernel_rfl) (by kernel_rfl) (by kernel_rfl)
@[simp] theorem ZAS:Wc 115=false:=by kernel_rfl
@[simp] theorem ZAj:Ym 116= Tryz.f116:=by kernel_rfl
@[simp] theorem tb_116(n:Nat):tab (n+1) 116=some (.lin [true] (Zp n 116)):=Wr (k:=false) (by kernel_rfl) (by kernel_rfl) (by kernel_rfl)
@[simp] theorem ZAk:Wc 116=false:=by kernel_rfl
@[simp] theorem ZAv:Ym 117= Tryz.f117:=by kernel_rfl
@[simp] theorem tb_117(n:Nat):tab (n+1) 117=some (.lin [true,false] (Zp n 117)):=Wr (k:=false) (by kernel_rfl) (by kernel_rfl) (by kernel_rfl)
@[simp] theorem ZAy:Wc 117=false:=by kernel_rfl
@[simp] theorem tb_118(n:Nat):tab (n+1) 118=some (.pure (UW)):=ZI rfl _
@[simp] theorem ZAL:Ym 119= Tryz.f119:=by kernel_rfl
@[simp] theorem tb_119(n:Nat):tab (n+1) 119=some (.pure (run n 119)):=Zu (by kernel_rfl) (by kernel_rfl) (by kernel_rfl)
@[simp] theorem ZAQ:Ym 120= Tryz.f120:=by kernel_rfl
@[simp] theorem tb_120(n:Nat):tab (n+1) 120=some (.lin [true] (Zp n 120)):=Wr (k:=false) (by kernel_rfl) (by kernel_rfl) (by kernel_rfl)
@[simp] theorem ZAt:Wc 120=false:=by kernel_rfl
@[simp] theorem tb_121(n:Nat):tab (n+1) 121=some (.pure (oN1 Zdw fun x=>.tup [.lit (.int .u64 (val x:Nat)),.lit (.bool true)])):=ZI rfl _
@[simp] theorem tb_131(n:Nat):tab (n+1) 131=some (.pure (oN1 Zdw fun x=>.tup [.lit (.int .u64 (val x:Nat)),.lit (.bool true)])):=ZI rfl _
@[simp] theorem tb_139(n:Nat):tab (n+1) 139=some (.lin [true] ccG):=ZI rfl _
@[simp] theorem ZAZ:Ym 141= Tryz.f141:=by kernel_rfl
@[simp] theorem ZxF:Za 141 5=[0,3,4]:=by kernel_rfl
@[simp] theorem ZmR:Za 141 1000005=[4]:=by kernel_rfl
@[simp] theorem tb_141(n:Nat):tab (n+1) 141=some (.pure (run n 141)):=Zu (by kernel_rfl) (by kernel_rfl) (by kernel_rfl)
@[simp] theorem tb_146(n:Nat):tab (n+1) 146=some (.pure (oFU)):=ZI rfl _
@[simp] theorem tb_147(n:Nat):tab (n+1) 147=some (.pure (Us)):=ZI rfl _
@[simp] theorem ZAH:Ym 148= Tryz.f148:=by kernel_rfl
@[simp] theorem Zxo:Za 148 1=[0,2,3]:=by kernel_rfl
@[simp] theorem ZnQ:Za 148 1000001=[]:=by kernel_rfl
@[simp] theorem tb_148(n:Nat):tab (n+1) 148=some (.lin [true] (Zp n 148)):=Wr (k:=false) (by kernel_rfl) (by kernel_rfl) (by kernel_rfl)
@[simp] theorem ZAW:Wc 148=false:=by kernel_rfl
@[simp] theorem tb_149(n:Nat):tab (n+1) 149=some (.pure (Zcn)):=ZI rfl _
end
section
open Go.RowKit
def Znw(q:Rat):List AV:=[.lit (.bool (Zd q).s),Zc (Zd q).l1,Zc (Zd q).l2]
def Zr(t:Int × Rat):List AV:=[.lit (.int .i64 t.1),.lit (.bool (Zd t.2).s),Zc (Zd t.2).l1,Zc (Zd t.2).l2]
abbrev Zf:=List (Int × Rat) × Rat
def Zh(f:Zf):List AV:=[.sl 4 (f.1.map Zr),.lit (.bool (Zd f.2).s),Zc (Zd f.2).l1,Zc (Zd f.2).l2]
theorem ZD{n b:Nat}(h:n≤100000000)(hb:b≤10000):ZU n b=true:=by
 unfold ZU
 have:n*b≤100000000*10000:=Nat.mul_le_mul h hb
 rw [Bool.and_eq_true]
 exact ⟨decide_eq_true (by omega),decide_eq_true (by omega)⟩
theorem Zwg{F:Raw→AV}{q:Rat}(h:H q≤17179869184):o1 F [Xo q]=some (F (Zd q)):=by
 have h1:(Zd q).few=true:=by
  have a1:(lmb q.num.natAbs).length≤H q:=Nat.le_max_left _ _
  have a2:(QL q.den).length≤H q:=Nat.le_trans (Zcz _) (Nat.le_max_right _ _)
  unfold Raw.few Zd
  rw [Bool.and_eq_true]
  exact ⟨Nat.ble_eq_true_of_le (by dsimp only;omega),Nat.ble_eq_true_of_le (by dsimp only;omega)⟩
 simp only [o1,ZgG,h1,if_true]
theorem Zue{F:Raw→Raw→AV}{p q:Rat}(hp:H p≤17179869184)(hq:H q≤17179869184):o2 F [Xo p,Xo q]=some (F (Zd p) (Zd q)):=by
 have few:∀{q:Rat},H q≤17179869184→(Zd q).few=true:=fun {q} h=>by
  have a1:(lmb q.num.natAbs).length≤H q:=Nat.le_max_left _ _
  have a2:(QL q.den).length≤H q:=Nat.le_trans (Zcz _) (Nat.le_max_right _ _)
  unfold Raw.few Zd
  rw [Bool.and_eq_true]
  exact ⟨Nat.ble_eq_true_of_le (by dsimp only;omega),Nat.ble_eq_true_of_le (by dsimp only;omega)⟩
 simp only [o2,ZgG,few hp,few hq,Bool.and_self,if_true]
theorem ZeI{F:Raw→AV}{q:Rat}(h:H q≤17179869184):o1 F [.agg [.lit (.bool (Zd q).s),Zc (Zd q).l1,Zc (Zd q).l2]]=some (F (Zd q)):=Zwg h
theorem Zet{F:Raw→Raw→AV}{p q:Rat}(hp:H p≤17179869184)(hq:H q≤17179869184):o2 F [.agg [.lit (.bool (Zd p).s),Zc (Zd p).l1,Zc (Zd p).l2],.agg [.lit (.bool (Zd q).s),Zc (Zd q).l1,Zc (Zd q).l2]]=some (F (Zd p) (Zd q)):=Zue hp hq
noncomputable def ZsA:List AV→Option AV:=o2 fun x y=>Xo (x.q+y.q)
@[simp] theorem ZAw(n:Nat):tab n 38=some (.pure ZsA):=ZI rfl n
@[simp] theorem Zzm(n:Nat):tab n 110=some (.pure ZsA):=ZI rfl n
noncomputable def Zxk:List AV→Option AV:=o2 fun x y=>Xo (x.q-y.q)
@[simp] theorem ZAU(n:Nat):tab n 57=some (.pure Zxk):=ZI rfl n
noncomputable def Zrc:List AV→Option AV:=o2 fun x y=>Xo (x.q*y.q)
@[simp] theorem ZAN(n:Nat):tab n 39=some (.pure Zrc):=ZI rfl n
@[simp] theorem ZAc(n:Nat):tab n 111=some (.pure Zrc):=ZI rfl n
noncomputable def Zst:List AV→Option AV:=o1 fun x=>Xo (-x.q)
@[simp] theorem ZAG(n:Nat):tab n 24=some (.pure Zst):=ZI rfl n
@[simp] theorem ZzB(n:Nat):tab n 47=some (.pure Zst):=ZI rfl n
noncomputable def ZeU:List AV→Option AV:=o1 fun x=>Xo x.q
@[simp] theorem Zyh(n:Nat):tab n 56=some (.pure ZeU):=ZI rfl n
@[simp] theorem ZwC(n:Nat):tab n 85=some (.pure ZeU):=ZI rfl n
noncomputable def ZfN:List AV→Option AV:=o1 fun x=>.lit (.int .i64 (sgR x.q))
@[simp] theorem ZAe(n:Nat):tab n 15=some (.pure ZfN):=ZI rfl n
@[simp] theorem ZxC(n:Nat):tab n 35=some (.pure ZfN):=ZI rfl n
noncomputable def ZrQ:List AV→Option AV:=o2 fun x y=>.lit (.int .i64 (sgR (x.q-y.q)))
@[simp] theorem ZA5(n:Nat):tab n 25=some (.pure ZrQ):=ZI rfl n
@[simp] theorem ZzG(n:Nat):tab n 69=some (.pure ZrQ):=ZI rfl n
noncomputable def Znd:List AV→Option AV:=o2 fun x y=>.lit (.bool (decide (x.s=y.s∧x.l1=y.l1∧x.l2=y.l2)))
@[simp] theorem ZAd(n:Nat):tab n 40=some (.pure Znd):=ZI rfl n
noncomputable def Zc4:List AV→Option AV:=o1 fun x=>.lit (.bool (decide (QP x.s x.l1 x.l2)))
@[simp] theorem Zyu(n:Nat):tab n 52=some (.pure Zc4):=ZI rfl n
@[simp] theorem ZwI(n:Nat):tab n 97=some (.pure Zc4):=ZI rfl n
noncomputable def fOf:List AV→Option AV:=oZ fun z=>Xo (z:Rat)
@[simp] theorem ZB7(n:Nat):tab n 20=some (.pure fOf):=ZI rfl n
@[simp] theorem ZAV(n:Nat):tab n 34=some (.pure fOf):=ZI rfl n
noncomputable def Ztr:List AV→Option AV:=oZZ fun x y=>.tup [Xo ((x:Rat) / (y:Rat)),.lit (.int .i64 0)]
@[simp] theorem Zy7(n:Nat):tab n 96=some (.pure Ztr):=ZI rfl n
theorem ZdV{p q:Rat}(hp:H p≤17179869184)(hq:H q≤17179869184):ZsA [.agg [.lit (.bool (Zd p).s),Zc (Zd p).l1,Zc (Zd p).l2],.agg [.lit (.bool (Zd q).s),Zc (Zd q).l1,Zc (Zd q).l2]]=some (.agg [.lit (.bool (Zd (p+q)).s),Zc (Zd (p+q)).l1,Zc (Zd (p+q)).l2]):=by unfold ZsA;rw [Zet hp hq,Qr,Qr];rfl
theorem Jr{p q:Rat}(hp:H p≤17179869184)(hq:H q≤17179869184):Zrc [.agg [.lit (.bool (Zd p).s),Zc (Zd p).l1,Zc (Zd p).l2],.agg [.lit (.bool (Zd q).s),Zc (Zd q).l1,Zc (Zd q).l2]]=some (.agg [.lit (.bool (Zd (p*q)).s),Zc (Zd (p*q)).l1,Zc (Zd (p*q)).l2]):=by unfold Zrc;rw [Zet hp hq,Qr,Qr];rfl
theorem Zd6{p q:Rat}(hp:H p≤17179869184)(hq:H q≤17179869184):ZrQ [.agg [.lit (.bool (Zd p).s),Zc (Zd p).l1,Zc (Zd p).l2],.agg [.lit (.bool (Zd q).s),Zc (Zd q).l1,Zc (Zd q).l2]]=some (.lit (.int .i64 (sgR (p-q)))):=by unfold ZrQ;rw [Zet hp hq,Qr,Qr]
theorem ZfD{p:Rat}(hp:H p≤17179869184):Zst [.agg [.lit (.bool (Zd p).s),Zc (Zd p).l1,Zc (Zd p).l2]]=some (.agg [.lit (.bool (Zd (-p)).s),Zc (Zd (-p)).l1,Zc (Zd (-p)).l2]):=by unfold Zst;rw [ZeI hp,Qr];rfl
theorem ZaP{p:Rat}(hp:H p≤17179869184):ZeU [.agg [.lit (.bool (Zd p).s),Zc (Zd p).l1,Zc (Zd p).l2]]=some (.agg [.lit (.bool (Zd p).s),Zc (Zd p).l1,Zc (Zd p).l2]):=by unfold ZeU;rw [ZeI hp,Qr];rfl
theorem Yz{p:Rat}(hp:H p≤17179869184):ZfN [.agg [.lit (.bool (Zd p).s),Zc (Zd p).l1,Zc (Zd p).l2]]=some (.lit (.int .i64 (sgR p))):=by unfold ZfN;rw [ZeI hp,Qr]
theorem Zqb{p q:Rat}(h:Zd p=Zd q):p=q:=by rw [←Qr p,h,Qr]
theorem Zdm{p q:Rat}(hp:H p≤17179869184)(hq:H q≤17179869184):Znd [.agg [.lit (.bool (Zd p).s),Zc (Zd p).l1,Zc (Zd p).l2],.agg [.lit (.bool (Zd q).s),Zc (Zd q).l1,Zc (Zd q).l2]]=some (.lit (.bool (decide (p=q)))):=by
 unfold Znd
 rw [Zet hp hq]
 have:(decide ((Zd p).s=(Zd q).s∧(Zd p).l1=(Zd q).l1∧(Zd p).l2=(Zd q).l2))=decide (p=q):=by
  apply decide_eq_decide.2
  constructor
  ·intro ⟨h1,h2,h3⟩
   apply Zqb
   generalize Zd p=a at*
   generalize Zd q=b at*
   obtain ⟨_,_,_⟩:=a
   obtain ⟨_,_,_⟩:=b
   simp_all
  ·intro h;subst h;exact ⟨rfl,rfl,rfl⟩
 rw [this]
theorem ZAY{z:Int}(h1:-9223372036854775808≤z)(h2:z≤9223372036854775807):fOf [.lit (.int .i64 z)]=some (.agg [.lit (.bool (Zd (z:Rat)).s),Zc (Zd (z:Rat)).l1,Zc (Zd (z:Rat)).l2]):=if_pos ⟨h1,h2⟩
end
section
open Go.RowKit
@[simp] theorem z0s:(Zd 0).s=false:=rfl
@[simp] theorem z0n:Zc (Zd 0).l1=.sl 1 []:=by
  have e:(Zd 0).l1=[]:=by decide+kernel
  rw [e];rfl
@[simp] theorem z0d:Zc (Zd 0).l2=.sl 1 []:=by
  have e:(Zd 0).l2=[]:=by decide+kernel
  rw [e];rfl
@[simp] def Zn(q:Rat):AV:=.agg [.lit (.bool (Zd q).s),Zc (Zd q).l1,Zc (Zd q).l2]
@[simp] def Ze(f:Zf):AV:=.agg [.sl 4 (f.1.map Zr),.lit (.bool (Zd f.2).s),Zc (Zd f.2).l1,Zc (Zd f.2).l2]
attribute [simp] Znw Zr Zh Zb ZD
def ZcJ(q:Rat):Rat:=if q.num<0 then -q else q
theorem ZpA(q:Rat):(-q).num=-q.num:=rfl
theorem ZmT(q:Rat):(-q).den=q.den:=rfl
theorem Zaj(q:Rat):Zd (ZcJ q)=⟨false,(Zd q).l1,(Zd q).l2⟩:=by
 by_cases h:q.num<0
 ·have e:ZcJ q=-q:=if_pos h
  have e2:decide (-q.num<0)=false:=decide_eq_false (by omega)
  rw [e]
  unfold Zd
  rw [ZpA,ZmT,Int.natAbs_neg,e2]
 ·have e:ZcJ q=q:=if_neg h
  have e2:decide (q.num<0)=false:=decide_eq_false h
  rw [e]
  unfold Zd
  rw [e2]
@[simp] theorem ZAo(q:Rat):(Zd (ZcJ q)).s=false:=by rw [Zaj]
@[simp] theorem ZA1(q:Rat):(Zd (ZcJ q)).l1=(Zd q).l1:=by rw [Zaj]
@[simp] theorem ZAm(q:Rat):(Zd (ZcJ q)).l2=(Zd q).l2:=by rw [Zaj]
theorem Zv5(q:Rat):H (ZcJ q)=H q:=by
 unfold ZcJ
 split
 ·unfold H
  rw [ZpA,ZmT,Int.natAbs_neg]
 ·rfl
def InI(z:Int):Prop:=-9223372036854775808≤z∧z≤9223372036854775807
theorem KW{p:Rat}(hp:H p≤17179869184):Zc4 [.agg [.lit (.bool (Zd p).s),Zc (Zd p).l1,Zc (Zd p).l2]]=some (.lit (.bool true)):=by
 unfold Zc4
 rw [ZeI hp]
 have e:QP (Zd p).s (Zd p).l1 (Zd p).l2:=by
  have h:sv (Zd p).s (Zd p).l1 (Zd p).l2=p:=Qr p
  unfold QP
  rw [h]
  exact ⟨rfl,rfl,rfl⟩
 simp [e]
@[simp] def ZF(z:Int):List AV:=[.lit (.int .i64 z)]
@[simp] def ZtU(z:Int):List AV:=[.lit (.int .u8 z)]
@[simp] def Zzl(z:Int):List AV:=[.lit (.int .u32 z)]
@[simp] def ZcO(b:Bool):List AV:=[.lit (.bool b)]
@[simp] def Jn(s:ByteArray):List AV:=[.lit (.string s)]
def YU(x y:Int):Rat:=(x:Rat) / (y:Rat)
def ofQ(z:Int):Rat:=(z:Rat)
theorem Za9{x y:Int}(hx:-9223372036854775808≤x∧x≤9223372036854775807)(hy:-9223372036854775808≤y∧y≤9223372036854775807)(h0:y≠0):
  Ztr [.lit (.int .i64 x),.lit (.int .i64 y)]=some (.tup [.agg [.lit (.bool (Zd (YU x y)).s),Zc (Zd (YU x y)).l1,Zc (Zd (YU x y)).l2],.lit (.int .i64 0)]):=if_pos ⟨hx,hy,h0⟩
theorem WB{z:Int}(h1:-9223372036854775808≤z)(h2:z≤9223372036854775807):fOf [.lit (.int .i64 z)]=some (.agg [.lit (.bool (Zd (ofQ z)).s),Zc (Zd (ofQ z)).l1,Zc (Zd (ofQ z)).l2]):=ZAY h1 h2
@[simp] theorem Zw4(l:List Rat):Qe 3 (l.map Znw)=true:=YI (fun x=>by simp) l
@[simp] theorem ZwP(l:List (Int × Rat)):Qe 4 (l.map Zr)=true:=YI (fun x=>by simp) l
@[simp] theorem ZwA(l:List Zf):Qe 4 (l.map Zh)=true:=YI (fun x=>by simp) l
@[simp] theorem ZtI(l:List Int):Qe 1 (l.map ZF)=true:=YI (fun x=>by simp) l
@[simp] theorem Zu0(l:List Int):Qe 1 (l.map ZtU)=true:=YI (fun x=>by simp) l
@[simp] theorem ZwY(l:List Bool):Qe 1 (l.map ZcO)=true:=YI (fun x=>by simp) l
@[simp] theorem ZxT(l:List ByteArray):Qe 1 (l.map Jn)=true:=YI (fun x=>by simp) l
section
variable {α β γ : Type} {P : Program} {O : FuncId → Option Orc} {m N : Nat} {lives : Nat → List Nat} {r : Nat} {C : Code} {M : Nat} {L : List α} {enc : Nat → β → St} {exN exE : Ex}
noncomputable def Zk(P:Program)(O:FuncId→Option Orc)(m N:Nat)(lives:Nat→List Nat)(r:Nat)(C:Code)(e:St):Option (Ex × St):=
 match (match exec P O m N lives big C e with
  | some (.nrm,s')=>U0 m (exec P O m N lives big C) (lives r) 4294967295 s'
  | x=>x) with
 | some (ex,s')=>(match gc m (lives (Zo r)) s' with|some s2=>some (ex,s2)|none=>none)
 | none=>none
theorem Zi{C':Code}{s e:St}(hC:C=C')(hg:gc m (lives r) s=some e):Zpy P O m N lives big r C s=Zk P O m N lives r C' e:=by
 subst hC
 unfold Zpy Zk
 have hb:U0 m (exec P O m N lives big C) (lives r) big s=U0 m (exec P O m N lives big C) (lives r) (4294967295+1) s:=rfl
 rw [hb,U0,hg]
 dsimp only
 cases exec P O m N lives big C e with
 | none=>rfl
 | some p=>
   obtain ⟨ex,s1⟩:=p
   cases ex <;>rfl
theorem ZjA{live outL:List Nat}{step:St→Option (Ex × St)}{Inv:Nat→β→Prop}{Q:Ex→St→Prop}(hstep:∀i b,i<M→Inv i b→(∃b',Zm m step live (enc i b) (enc (i+1) b')∧Inv (i+1) b')∨(∃ex t,ex≠.nrm∧Zj m step outL (enc i b) ex t∧Q ex t))(hend:∀b,Inv M b→∃ex t,ex≠.nrm∧Zj m step outL (enc M b) ex t∧Q ex t):
  ∀(k i n:Nat) (b:β),i+k=M→k≤n→Inv i b→∃ex s' t,(match step (enc i b) with|some (.nrm,s')=>U0 m step live n s'|x=>x)=some (ex,s')∧gc m outL s'=some t∧Q ex t
 | 0,i,n,b,hi,hn,hI=>by
   obtain rfl:i=M:=by omega
   obtain ⟨ex,t,h0,⟨s',h1,h2⟩,h3⟩:=hend b hI
   refine ⟨ex,s',t,?_,h2,h3⟩
   rw [h1]
   cases ex <;>first|exact absurd rfl h0|rfl
 | k+1,i,n,b,hi,hn,hI=>by
   rcases hstep i b (by omega) hI with ⟨b',⟨s1,h1,h2⟩,h3⟩|⟨ex,t,h0,⟨s',h1,h2⟩,h3⟩
   ·obtain ⟨ex,s',t,h4,h5,h6⟩:=ZjA hstep hend k (i+1) (n-1) b' (by omega) (by omega) h3
    refine ⟨ex,s',t,?_,h5,h6⟩
    rw [h1]
    have e:n=(n-1)+1:=by omega
    rw [e]
    dsimp only
    rw [U0,h2]
    exact h4
   ·refine ⟨ex,s',t,?_,h2,h3⟩
    rw [h1]
    cases ex <;>first|exact absurd rfl h0|rfl
theorem Q0(Inv:Nat→β→Prop)(Q:Ex→St→Prop)(b:β)(hI:Inv 0 b)(hn:M≤4294967295)(hstep:∀i b,i<M→Inv i b→(∃b',Zm m (exec P O m N lives big C) (lives r) (enc i b) (enc (i+1) b')∧Inv (i+1) b')∨(∃ex t,ex≠.nrm∧Zj m (exec P O m N lives big C) (lives (Zo r)) (enc i b) ex t∧Q ex t))(hend:∀b,Inv M b→∃ex t,ex≠.nrm∧Zj m (exec P O m N lives big C) (lives (Zo r)) (enc M b) ex t∧Q ex t):
  ∃ex t,Zk P O m N lives r C (enc 0 b)=some (ex,t)∧Q ex t:=by
 obtain ⟨ex,s',t,h1,h2,h3⟩:=ZjA hstep hend M 0 4294967295 b (by omega) hn hI
 refine ⟨ex,t,?_,h3⟩
 unfold Zk
 rw [h1]
 simp only [h2]
theorem QJ(Inv:Nat→β→Prop){out:β→St}(b:β)(hI:Inv 0 b)(hn:M≤4294967295)(hN:exN≠.nrm)(hstep:∀i b,i<M→Inv i b→∃b',Zm m (exec P O m N lives big C) (lives r) (enc i b) (enc (i+1) b')∧Inv (i+1) b')(hend:∀b,Inv M b→Zj m (exec P O m N lives big C) (lives (Zo r)) (enc M b) exN (out b)):
  ∃b',Zk P O m N lives r C (enc 0 b)=some (exN,out b')∧Inv M b':=by
 obtain ⟨ex,t,h1,b',rfl,rfl,h3⟩:=Q0 (m:=m) (C:=C) (P:=P) (O:=O) (N:=N) Inv (fun ex t=>∃b',ex=exN∧t=out b'∧Inv M b') b hI hn (fun i b hi hI=>.inl (hstep i b hi hI)) (fun b hI=>⟨exN,out b,hN,hend b hI,b,rfl,rfl,hI⟩)
 exact ⟨b',h1,h3⟩
theorem Zfw {f:Nat→β→α→Except γ β} {out:β→St} {outE:γ→St} {Inv:Nat→β→Prop} (b:β) (hI:Inv 0 b) (hn:L.length≤4294967295) (hN:exN≠.nrm) (hE:exE≠.nrm) (hstep:∀i x b,L[i]?=some x→Inv i b→match f i b x with
   | .ok b'=>Zm m (exec P O m N lives big C) (lives r) (enc i b) (enc (i+1) b')∧Inv (i+1) b'
   | .error c=>Zj m (exec P O m N lives big C) (lives (Zo r)) (enc i b) exE (outE c)) (hend:∀b,Inv L.length b→Zj m (exec P O m N lives big C) (lives (Zo r)) (enc L.length b) exN (out b)):
  Zk P O m N lives r C (enc 0 b)=some (Zrz (XE f 0 b L) exN out exE outE)∧∀b',XE f 0 b L=.ok b'→Inv L.length b':=by
 obtain ⟨ex,t,h1,h2,h3⟩:=Q0 (m:=m) (C:=C) (P:=P) (O:=O) (N:=N) (lives:=lives) (r:=r) (enc:=enc) (M:=L.length) (fun i b'=>Inv i b'∧XE f i b' (L.drop i)=XE f 0 b L)
  (fun ex t=>(ex,t)=Zrz (XE f 0 b L) exN out exE outE∧∀b',XE f 0 b L=.ok b'→Inv L.length b') b ⟨hI,rfl⟩ hn
  (fun i b' hi ⟨hI,hf⟩=>by
   have hx:L[i]?=some L[i]:=List.getElem?_eq_getElem hi
   have hd:L.drop i=L[i]::L.drop (i+1):=List.drop_eq_getElem_cons hi
   have h4:=hstep i _ b' hx hI
   rw [hd,XE] at hf
   split at h4
   ·rename_i b2 he
    rw [he] at hf
    exact .inl ⟨b2,h4.1,h4.2,hf⟩
   ·rename_i c he
    rw [he] at hf
    exact .inr ⟨exE,outE c,hE,h4,by rw [←hf];rfl,fun b' h=>by rw [←hf] at h;cases h⟩)
  (fun b' ⟨hI,hf⟩=>by
   rw [List.drop_length,XE] at hf
   exact ⟨exN,out b',hN,hend b' hI,by rw [←hf];rfl,fun b2 h=>by rw [←hf] at h;cases h;exact hI⟩)
 rw [h1,h2]
 exact ⟨rfl,h3⟩
theorem XV{f:Nat→β→α→β}{out:β→St}{Inv:Nat→β→Prop}(b:β)(hI:Inv 0 b)(hn:L.length≤4294967295)(hN:exN≠.nrm)(hstep:∀i x b,L[i]?=some x→Inv i b→Zm m (exec P O m N lives big C) (lives r) (enc i b) (enc (i+1) (f i b x))∧Inv (i+1) (f i b x))(hend:∀b,Inv L.length b→Zj m (exec P O m N lives big C) (lives (Zo r)) (enc L.length b) exN (out b)):
  Zk P O m N lives r C (enc 0 b)=some (exN,out (VI f 0 b L))∧Inv L.length (VI f 0 b L):=by
 have key:∀(R:List α) (i:Nat) (b:β),XE (γ:=Empty) (fun i b x=>.ok (f i b x)) i b R=.ok (VI f i b R):=fun R=>by
  induction R with
  | nil=>intro i b;rfl
  | cons x R ih=>intro i b;exact ih (i+1) (f i b x)
 have h:=Zfw (γ:=Empty) (f:=fun i b x=>.ok (f i b x)) (exE:=.ret) (outE:=fun c=>c.elim) (P:=P) (O:=O) (m:=m) (N:=N) (lives:=lives) (r:=r) (C:=C) b hI hn hN (fun h=>by cases h) hstep hend
 rw [key] at h
 exact ⟨h.1,h.2 _ rfl⟩
end
theorem QY{P:Program}{O:FuncId→Option Orc}{m N:Nat}{lives:Nat→List Nat}{r:Nat}{C:Code}{M:Nat}{enc:Nat→St}{p:Nat→Bool}{exN exE:Ex}{out outE:St}(hn:M≤4294967295)(hN:exN≠.nrm)(hE:exE≠.nrm)(hstep:∀i,i<M→(∀j,j<i→p j=true)→(p i=true→Zm m (exec P O m N lives big C) (lives r) (enc i) (enc (i+1)))∧(p i=false→Zj m (exec P O m N lives big C) (lives (Zo r)) (enc i) exE outE))(hend:Zj m (exec P O m N lives big C) (lives (Zo r)) (enc M) exN out):
  Zk P O m N lives r C (enc 0)=some (if ∀i,i<M→p i=true then (exN,out) else (exE,outE)):=by
 obtain ⟨ex,t,h1,h2⟩:=Q0 (β:=Unit) (m:=m) (C:=C) (P:=P) (O:=O) (N:=N) (lives:=lives) (r:=r) (M:=M) (enc:=fun i _=>enc i) (fun i _=>∀j,j<i→p j=true) (fun ex t=>(ex,t)=if ∀i,i<M→p i=true then (exN,out) else (exE,outE)) () (fun j hj=>absurd hj (by omega)) hn
  (fun i b hi hI=>by
   cases hp:p i with
   | true=>exact .inl ⟨(),(hstep i hi hI).1 hp,fun j hj=>by rcases Nat.lt_succ_iff_lt_or_eq.1 hj with h|rfl;exact hI j h;exact hp⟩
   | false=>
     refine .inr ⟨exE,outE,hE,(hstep i hi hI).2 hp,?_⟩
     rw [if_neg]
     intro h
     rw [h i hi] at hp;cases hp)
  (fun b hI=>⟨exN,out,hN,hend,by rw [if_pos hI]⟩)
 rw [h1,h2]
structure RawB (r:Raw):Prop where
 n:Lim r.l1
 d:Lim r.l2
 bn:r.l1.length≤17179869184
 bd:r.l2.length≤17179869184
theorem RawB.few{r:Raw}(h:RawB r):r.few=true:=by
 unfold Raw.few
 rw [Bool.and_eq_true]
 exact ⟨Nat.ble_eq_true_of_le h.bn,Nat.ble_eq_true_of_le h.bd⟩
theorem Zbx{q:Rat}(h:H q≤17179869184):RawB (Zd q):=by
 have a1:(lmb q.num.natAbs).length≤H q:=Nat.le_max_left _ _
 have a2:(QL q.den).length≤H q:=Nat.le_trans (Zcz _) (Nat.le_max_right _ _)
 exact ⟨Yk _,Zdk _,Nat.le_trans a1 h,Nat.le_trans a2 h⟩
theorem ZsC{F:Raw→AV}{r:Raw}(h:RawB r):o1 F [.agg [.lit (.bool r.s),Zc r.l1,Zc r.l2]]=some (F r):=by
 have h1:Zaw (.agg [.lit (.bool r.s),Zc r.l1,Zc r.l2])=some r:=ZaQ h.n h.d
 simp only [o1,h1,h.few,if_true]
theorem Uk{r:Raw}(h:RawB r):Zc4 [.agg [.lit (.bool r.s),Zc r.l1,Zc r.l2]]=some (.lit (.bool (decide (QP r.s r.l1 r.l2)))):=ZsC h
theorem VJ{r:Raw}(h:RawB r):ZfN [.agg [.lit (.bool r.s),Zc r.l1,Zc r.l2]]=some (.lit (.int .i64 (sgR r.q))):=ZsC h
@[simp] def ZrH(r:Raw):List AV:=[.lit (.bool r.s),Zc r.l1,Zc r.l2]
@[simp] def YQ(t:Int × Raw):List AV:=[.lit (.int .i64 t.1),.lit (.bool t.2.s),Zc t.2.l1,Zc t.2.l2]
abbrev Yo:=List (Int × Raw) × Raw
@[simp] def Yw(f:Yo):List AV:=[.sl 4 (f.1.map YQ),.lit (.bool f.2.s),Zc f.2.l1,Zc f.2.l2]
@[simp] theorem Zyk(l:List Raw):Qe 3 (l.map ZrH)=true:=YI (fun x=>by simp) l
@[simp] theorem Zwi(l:List (Int × Raw)):Qe 4 (l.map YQ)=true:=YI (fun x=>by simp) l
@[simp] theorem Zum(l:List Yo):Qe 4 (l.map Yw)=true:=YI (fun x=>by simp) l
structure ZC where
 c:List Int
 from_:Int
@[simp] def Ye(g:ZC):List AV:=[.sl 1 (g.c.map ZF),.lit (.int .u64 (g.from_))]
@[simp] def ZCi(g:ZC):AV:=.agg [.sl 1 (g.c.map ZF),.lit (.int .u64 (g.from_))]
@[simp] theorem Zyz(l:List ZC):Qe 2 (l.map Ye)=true:=YI (fun x=>by simp) l
structure ZvB where
 Neg:Bool
 Mag:List Nat
@[simp] def ZAF(g:ZvB):List AV:=[.lit (.bool g.Neg),Zc g.Mag]
@[simp] def ZCy(g:ZvB):AV:=.agg [.lit (.bool g.Neg),Zc g.Mag]
@[simp] theorem ZxZ(l:List ZvB):Qe 2 (l.map ZAF)=true:=YI (fun x=>by simp) l
structure ZK where
 Vars:Int
 Rows:List Zf
 Objective:Zf
@[simp] def Zow(g:ZK):List AV:=[.lit (.int .i64 (g.Vars)),.sl 4 (g.Rows.map Zh),.sl 4 (g.Objective.1.map Zr),.lit (.bool (Zd g.Objective.2).s),Zc (Zd g.Objective.2).l1,Zc (Zd g.Objective.2).l2]
@[simp] def XO(g:ZK):AV:=.agg [.lit (.int .i64 (g.Vars)),.sl 4 (g.Rows.map Zh),.sl 4 (g.Objective.1.map Zr),.lit (.bool (Zd g.Objective.2).s),Zc (Zd g.Objective.2).l1,Zc (Zd g.Objective.2).l2]
@[simp] theorem Zq9(l:List ZK):Qe 6 (l.map Zow)=true:=YI (fun x=>by simp) l
structure Zbe where
 Vars:Int
 Rows:List Yo
 Objective:Yo
@[simp] def ZkL(g:Zbe):List AV:=[.lit (.int .i64 (g.Vars)),.sl 4 (g.Rows.map Yw),.sl 4 (g.Objective.1.map YQ),.lit (.bool g.Objective.2.s),Zc g.Objective.2.l1,Zc g.Objective.2.l2]
@[simp] def ZwE(g:Zbe):AV:=.agg [.lit (.int .i64 (g.Vars)),.sl 4 (g.Rows.map Yw),.sl 4 (g.Objective.1.map YQ),.lit (.bool g.Objective.2.s),Zc g.Objective.2.l1,Zc g.Objective.2.l2]
@[simp] theorem ZqF(l:List Zbe):Qe 6 (l.map ZkL)=true:=YI (fun x=>by simp) l
end
end Go.Proofs.YtdaonnnlgfhlaaaGreatDoor
