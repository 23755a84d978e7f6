import Derived.Test.YtdaonnnlgfhlaaaGreatDoorGH15
import Derived.Test.YtdaonnnlgfhlaaaGreatDoorGH13
import Derived.Test.YtdaonnnlgfhlaaaGreatDoorGH8
set_option linter.all false
set_option maxRecDepth 100000
namespace Go.Proofs.YtdaonnnlgfhlaaaGreatDoor
open Go.RowKit
def livesT:List (Nat × List (Nat × List Nat)):=[(9,[(4,[1,3]),(1000004,[2])]),(13,[(4,[2,3,5]),(1000004,[4])]),(17,[(6,[1,6,7,8,27,28,29,ph 6 0 28 4]),(16,[1,6,8,53,54,55]),(20,[1,6,8,12,13,53,54,55,62,63,64]),(1000006,[1,6,7,8]),(1000016,[6]),(1000020,[1,6,8,53,54,55])]),(18,[(5,[0,1,6,7,8,9]),(16,[1,6,7,8,10]),(19,[1,6,7,8,10,11]),(1000005,[1,4,5,6,7,8]),(1000016,[6]),(1000019,[1,6,7,8,10])]),(19,[(4,[0,1,5]),(1000004,[4])]),(21,[(2,[1,2,5]),(1000002,[2,4])]),(22,[(2,[1,2,4,5]),(1000002,[4])]),(29,[(8,[3,4,6,7,8]),(16,[3,4,7,11,12]),(20,[3,4,7,11,12,13,14]),(1000008,[2,3,4,7]),(1000016,[2,3,4,7]),(1000020,[3,4,7,11,12,13])]),(30,[(9,[2,7,12,13,56,57,58]),(1000009,[6,7,8,12,13])]),(31,[(10,[2,7,10,12,13,14,ph 13 1 0 0,ph 13 2 0 0]),(21,[2,7,10,12,13,16]),(1000010,[2,6,7,8,10,12,13]),(1000021,[6,7,8,12,13])]),(41,[(3,[2,3,4,5,6,ph 5 0 68 4]),(1000003,[4,5])]),(43,[(4,[0,5]),(1000004,[4])]),(44,[(2,[1,7,8,9]),(1000002,[4])]),(45,[(2,[1,4,8,9,10]),(1000002,[4])]),(49,[(5,[0,5,6]),(1000005,[0,4,5])]),(50,[(3,[3,4,5,6]),(1000003,[4,5])]),(54,[(3,[0,1,5,6]),(7,[0,1,5,6,7,8]),(1000003,[5]),(1000007,[0,1,5,6])]),(58,[(2,[0,11,12]),(11,[8,28,29,30,ph 8 0 28 4]),(1000002,[0,4,5]),(1000011,[8])]),(59,[(2,[0,1,5]),(1000002,[1,4])]),(60,[(3,[0,1,6,7]),(7,[1,6,8]),(1000003,[1,6]),(1000007,[4,5,6])]),(63,[(4,[1,2,6,7,8]),(18,[1,6,7,14,15]),(24,[1,6,7,14,16]),(1000004,[1,4,5,6,7]),(1000018,[1,4,5,6,7,14]),(1000024,[6])]),(64,[(3,[0,1,5,6,7]),(1000003,[5,6])]),(65,[(3,[0,1,2,8,9]),(8,[0,1,2,8,10]),(11,[0,1,2,8,10,11]),(16,[0,1,2,8,10,11,12,13]),(1000003,[0,1,2,8]),(1000008,[6,7,8]),(1000011,[0,1,2,6,7,8,10]),(1000016,[0,1,2,8,10,11,12])]),(66,[(4,[0,1,5,6,7,8,9,10,ph 8 1 0 0,ph 8 2 0 0,ph 9 1 0 0,ph 9 2 0 0]),(1000004,[4,5,6,7,8,9])]),(67,[(2,[1,2,8,9,10]),(1000002,[2,4])]),(76,[(6,[1,5,29,30,31]),(10,[1,5,6,7,8,29,30,31,36,37,38]),(1000006,[5]),(1000010,[1,5,6,8,29,30,31])]),(78,[(3,[5,6,7,8,9,ph 7 0 68 4]),(1000003,[6,7])]),(84,[(4,[1,3,4,11,12,13]),(1000004,[1,3,4])]),(86,[(4,[1,3,5,6,7,8,9]),(1000004,[1,3,5,6,7,8])]),(88,[(2,[0,1]),(1000002,[0])]),(89,[(9,[0,1,11,12,13]),(1000009,[11,12])]),(91,[(2,[0,3]),(1000002,[0,3])]),(93,[(1,[0,1]),(1000001,[0])]),(94,[(3,[0,3,4]),(7,[0,3,5]),(1000003,[0,3]),(1000007,[2])]),(95,[(2,[0,3]),(1000002,[3])]),(100,[(3,[0,4,6,7,ph 6 0 0 0]),(1000003,[4,5,6])]),(107,[(2,[0,1]),(10,[11,13]),(1000002,[0,1]),(1000010,[11])]),(108,[(13,[9,10,11,12,13]),(1000013,[9,10,12])]),(109,[(2,[0,3]),(1000002,[0,3])]),(113,[(4,[0,1,5,6,7]),(1000004,[5,6])]),(114,[(6,[0,1,6,7,8]),(1000006,[6])]),(122,[(6,[3,4]),(1000006,[3])]),(123,[(4,[0,1,5,6,7]),(1000004,[5,6])]),(124,[(2,[0,1,5]),(1000002,[4])]),(127,[(7,[0,1,5]),(1000007,[4])]),(131,[(6,[4,12,13,14]),(1000006,[4])]),(132,[(4,[0,1,6,7,8]),(1000004,[6,7])]),(134,[(3,[1,5,13,14,15]),(1000003,[5])]),(135,[(3,[0,1,2,7,8,15,16,17]),(17,[0,1,2,7,70,71,72]),(1000003,[0,1,2,7,8]),(1000017,[0,1,2,7])]),(136,[(4,[0,1,5,7,8]),(1000004,[7])]),(137,[(9,[0,1,6,30,31,32]),(1000009,[6])]),(141,[(5,[0,3,4]),(1000005,[4])]),(147,[(38,[7,8,9]),(1000038,[9])]),(148,[(1,[0,2,3]),(1000001,[])]),(149,[(12,[0,1,5,39,40,41]),(22,[1,8,63,64,65]),(1000012,[0,1,5]),(1000022,[8])]),(152,[(1,[0,1,4]),(1000001,[0,1,4])]),(153,[(11,[0,1,3,4,10,11,12,13,14,15,16]),(18,[0,1,3,4,10,11,12,13,17]),(1000011,[0,1,3,4,10,11,12,13]),(1000018,[0,1,3,4,10,11,12,13])])]
def Za(f:FuncId):Nat→List Nat:=lv ((livesT.lookup f).getD [])
def modesT:List (Nat × (List Bool × Bool)):=[(46,([true,false],false)),(49,([true,false],true)),(81,([true,false],true)),(94,([true],false)),(112,([true,false,false],true)),(115,([false,false,true],false)),(116,([true],false)),(117,([true,false],false)),(120,([true],false)),(135,([true,false,false],false)),(139,([true],false)),(148,([true],false)),(152,([true,false],false)),(153,([true,false,false,false,false],true)),(157,([true,false],false)),(166,([true,false],false))]
noncomputable def Yt(f:FuncId):Func:=(Tryz.prog.funcs[f]?).getD default
def WA(f:FuncId):Bool:=((modesT.lookup f).getD ([],false)).2
noncomputable def tab:Nat→FuncId→Option Orc
 | 0,f=>Zie f
 | n+1,f=>match Zie f with
   | some x=>some x
   | none=>match XE Tryz.prog f with
     | true=>(match modesT.lookup f with
       | some (ms,k)=>some (.lin ms (fnL Tryz.prog (tab n) (Za f) big (Yt f) (WA f)))
       | none=>some (.pure (fnP Tryz.prog (tab n) (Za f) big (Yt f))))
     | false=>none
theorem UE{f:FuncId}(h:XE Tryz.prog f=true): Tryz.prog.funcs[f]?=some (Yt f):=by
 unfold XE at h
 unfold Yt
 split at h
 ·rename_i fn hf;rw [hf];rfl
 ·cases h
theorem ZfQ:∀n,OrcOk Tryz.prog (tab n)
 | 0=>orc0_ok
 | n+1=>by
   have key:∀f x,tab (n+1) f=some x→(Zie f=some x)∨(XE Tryz.prog f=true∧((∃(ms:List Bool) (k:Bool),x=.lin ms (fnL Tryz.prog (tab n) (Za f) big (Yt f) (WA f)))∨x=.pure (fnP Tryz.prog (tab n) (Za f) big (Yt f)))):=fun f x h=>by
    unfold tab at h
    split at h
    ·rename_i y hy;cases h;exact .inl hy
    ·split at h
     ·rename_i hp
      split at h
      ·cases h;exact .inr ⟨hp,.inl ⟨_,false,rfl⟩⟩
      ·cases h;exact .inr ⟨hp,.inr rfl⟩
     ·cases h
   refine ⟨fun f g h=>?_,fun f ms g h=>?_⟩
   ·rcases key f _ h with h|⟨hp,⟨ms,k,h⟩|h⟩
    ·exact orc0_ok.pure f g h
    ·cases h
    ·cases h
     exact ⟨hp,fun args r hr=>ZfF (ZfQ n) mixed (UE hp) (UF hp (UE hp)) hr⟩
   ·rcases key f _ h with h|⟨hp,⟨ms,k,h⟩|h⟩
    ·exact orc0_ok.lin f ms g h
    ·cases h
     exact ⟨hp,fun bin args r outs hr=>Zub (ZfQ n) mixed (UE hp) (UF hp (UE hp)) hr⟩
    ·cases h
noncomputable def run(n:Nat)(f:FuncId)(args:List AV):Option AV:=fnP Tryz.prog (tab n) (Za f) big (Yt f) args
noncomputable def Zr(n:Nat)(f:FuncId)(args:List AV)(bin:List AB):Option (AV × List (Nat × AB)):=fnL Tryz.prog (tab n) (Za f) big (Yt f) (WA f) args bin
theorem Zu{n:Nat}{f:FuncId}(h0:Zie f=none)(hp:XE Tryz.prog f=true)(hm:modesT.lookup f=none):tab (n+1) f=some (.pure (run n f)):=by
 unfold tab
 rw [h0]
 simp only [hp,hm]
 rfl
theorem WK{n:Nat}{f:FuncId}{ms:List Bool}{k:Bool}(h0:Zie f=none)(hp:XE Tryz.prog f=true)(hm:modesT.lookup f=some (ms,k)):tab (n+1) f=some (.lin ms (Zr n f)):=by
 unfold tab
 rw [h0]
 simp only [hp,hm]
 rfl
theorem ZL{f:FuncId}{x:Orc}(h:Zie f=some x):∀n,tab n f=some x
 | 0=>h
 | n+1=>by unfold tab;rw [h]
@[simp] theorem ZD1:Yt 7= Tryz.f7:=by kernel_rfl
@[simp] theorem tb_8(n:Nat):tab (n+1) 8=some (.pure (run n 8)):=Zu (by kernel_rfl) (by kernel_rfl) (by kernel_rfl)
@[simp] theorem ZDZ:Yt 9= Tryz.f9:=by kernel_rfl
@[simp] theorem ZBZ:Za 9 4=[1,3]:=by kernel_rfl
@[simp] theorem Zsr:Za 9 1000004=[2]:=by kernel_rfl
@[simp] theorem tb_9(n:Nat):tab (n+1) 9=some (.pure (run n 9)):=Zu (by kernel_rfl) (by kernel_rfl) (by kernel_rfl)
@[simp] theorem ZDN:Yt 11= Tryz.f11:=by kernel_rfl
@[simp] theorem tb_11(n:Nat):tab (n+1) 11=some (.pure (run n 11)):=Zu (by kernel_rfl) (by kernel_rfl) (by kernel_rfl)
@[simp] theorem ZC6:Yt 13= Tryz.f13:=by kernel_rfl
@[simp] theorem ZBn:Za 13 4=[2,3,5]:=by kernel_rfl
@[simp] theorem ZrK:Za 13 1000004=[4]:=by kernel_rfl
@[simp] theorem tb_13(n:Nat):tab (n+1) 13=some (.pure (run n 13)):=Zu (by kernel_rfl) (by kernel_rfl) (by kernel_rfl)
@[simp] theorem ZDJ:Yt 14= Tryz.f14:=by kernel_rfl
@[simp] theorem tb_14(n:Nat):tab (n+1) 14=some (.pure (run n 14)):=Zu (by kernel_rfl) (by kernel_rfl) (by kernel_rfl)
@[simp] theorem ZCW:Yt 16= Tryz.f16:=by kernel_rfl
@[simp] theorem tb_16(n:Nat):tab (n+1) 16=some (.pure (run n 16)):=Zu (by kernel_rfl) (by kernel_rfl) (by kernel_rfl)
@[simp] theorem ZCT:Yt 17= Tryz.f17:=by kernel_rfl
@[simp] theorem ZBc:Za 17 6=[1,6,7,8,27,28,29,ph 6 0 28 4]:=by kernel_rfl
@[simp] theorem Zzu:Za 17 16=[1,6,8,53,54,55]:=by kernel_rfl
@[simp] theorem ZzN:Za 17 20=[1,6,8,12,13,53,54,55,62,63,64]:=by kernel_rfl
@[simp] theorem Zr8:Za 17 1000006=[1,6,7,8]:=by kernel_rfl
@[simp] theorem ZrP:Za 17 1000016=[6]:=by kernel_rfl
@[simp] theorem Zr1:Za 17 1000020=[1,6,8,53,54,55]:=by kernel_rfl
@[simp] theorem tb_17(n:Nat):tab (n+1) 17=some (.pure (run n 17)):=Zu (by kernel_rfl) (by kernel_rfl) (by kernel_rfl)
@[simp] theorem ZDd:Yt 18= Tryz.f18:=by kernel_rfl
@[simp] theorem ZBj:Za 18 5=[0,1,6,7,8,9]:=by kernel_rfl
@[simp] theorem Zzk:Za 18 16=[1,6,7,8,10]:=by kernel_rfl
@[simp] theorem ZAk:Za 18 19=[1,6,7,8,10,11]:=by kernel_rfl
@[simp] theorem ZrX:Za 18 1000005=[1,4,5,6,7,8]:=by kernel_rfl
@[simp] theorem Zrz:Za 18 1000016=[6]:=by kernel_rfl
@[simp] theorem ZrY:Za 18 1000019=[1,6,7,8,10]:=by kernel_rfl
@[simp] theorem tb_18(n:Nat):tab (n+1) 18=some (.pure (run n 18)):=Zu (by kernel_rfl) (by kernel_rfl) (by kernel_rfl)
@[simp] theorem ZDr:Yt 21= Tryz.f21:=by kernel_rfl
@[simp] theorem ZAS:Za 21 2=[1,2,5]:=by kernel_rfl
@[simp] theorem ZrJ:Za 21 1000002=[2,4]:=by kernel_rfl
@[simp] theorem tb_21(n:Nat):tab (n+1) 21=some (.pure (run n 21)):=Zu (by kernel_rfl) (by kernel_rfl) (by kernel_rfl)
@[simp] theorem ZDR:Yt 22= Tryz.f22:=by kernel_rfl
@[simp] theorem ZBC:Za 22 2=[1,2,4,5]:=by kernel_rfl
@[simp] theorem Zr7:Za 22 1000002=[4]:=by kernel_rfl
@[simp] theorem tb_22(n:Nat):tab (n+1) 22=some (.pure (run n 22)):=Zu (by kernel_rfl) (by kernel_rfl) (by kernel_rfl)
@[simp] theorem ZDs:Yt 23= Tryz.f23:=by kernel_rfl
@[simp] theorem tb_23(n:Nat):tab (n+1) 23=some (.pure (run n 23)):=Zu (by kernel_rfl) (by kernel_rfl) (by kernel_rfl)
@[simp] theorem ZDl:Yt 29= Tryz.f29:=by kernel_rfl
@[simp] theorem ZAT:Za 29 8=[3,4,6,7,8]:=by kernel_rfl
@[simp] theorem ZAn:Za 29 16=[3,4,7,11,12]:=by kernel_rfl
@[simp] theorem Zzq:Za 29 20=[3,4,7,11,12,13,14]:=by kernel_rfl
@[simp] theorem Zr9:Za 29 1000008=[2,3,4,7]:=by kernel_rfl
@[simp] theorem Zry:Za 29 1000016=[2,3,4,7]:=by kernel_rfl
@[simp] theorem Zsb:Za 29 1000020=[3,4,7,11,12,13]:=by kernel_rfl
@[simp] theorem tb_29(n:Nat):tab (n+1) 29=some (.pure (run n 29)):=Zu (by kernel_rfl) (by kernel_rfl) (by kernel_rfl)
@[simp] theorem ZDx:Yt 30= Tryz.f30:=by kernel_rfl
@[simp] theorem ZAU:Za 30 9=[2,7,12,13,56,57,58]:=by kernel_rfl
@[simp] theorem ZrL:Za 30 1000009=[6,7,8,12,13]:=by kernel_rfl
@[simp] theorem tb_30(n:Nat):tab (n+1) 30=some (.pure (run n 30)):=Zu (by kernel_rfl) (by kernel_rfl) (by kernel_rfl)
@[simp] theorem ZDm:Yt 31= Tryz.f31:=by kernel_rfl
@[simp] theorem ZyI:Za 31 10=[2,7,10,12,13,14,ph 13 1 0 0,ph 13 2 0 0]:=by kernel_rfl
@[simp] theorem Zzw:Za 31 21=[2,7,10,12,13,16]:=by kernel_rfl
@[simp] theorem ZrD:Za 31 1000010=[2,6,7,8,10,12,13]:=by kernel_rfl
@[simp] theorem Zrx:Za 31 1000021=[6,7,8,12,13]:=by kernel_rfl
@[simp] theorem tb_31(n:Nat):tab (n+1) 31=some (.pure (run n 31)):=Zu (by kernel_rfl) (by kernel_rfl) (by kernel_rfl)
@[simp] theorem ZCY:Yt 33= Tryz.f33:=by kernel_rfl
@[simp] theorem tb_33(n:Nat):tab (n+1) 33=some (.pure (run n 33)):=Zu (by kernel_rfl) (by kernel_rfl) (by kernel_rfl)
@[simp] theorem ZDv:Yt 36= Tryz.f36:=by kernel_rfl
@[simp] theorem tb_36(n:Nat):tab (n+1) 36=some (.pure (run n 36)):=Zu (by kernel_rfl) (by kernel_rfl) (by kernel_rfl)
@[simp] theorem ZDf:Yt 37= Tryz.f37:=by kernel_rfl
@[simp] theorem tb_37(n:Nat):tab (n+1) 37=some (.pure (run n 37)):=Zu (by kernel_rfl) (by kernel_rfl) (by kernel_rfl)
@[simp] theorem ZDO:Yt 41= Tryz.f41:=by kernel_rfl
@[simp] theorem ZBg:Za 41 3=[2,3,4,5,6,ph 5 0 68 4]:=by kernel_rfl
@[simp] theorem ZrZ:Za 41 1000003=[4,5]:=by kernel_rfl
@[simp] theorem tb_41(n:Nat):tab (n+1) 41=some (.pure (run n 41)):=Zu (by kernel_rfl) (by kernel_rfl) (by kernel_rfl)
@[simp] theorem ZDe:Yt 43= Tryz.f43:=by kernel_rfl
@[simp] theorem ZBL:Za 43 4=[0,5]:=by kernel_rfl
@[simp] theorem ZrG:Za 43 1000004=[4]:=by kernel_rfl
@[simp] theorem tb_43(n:Nat):tab (n+1) 43=some (.pure (run n 43)):=Zu (by kernel_rfl) (by kernel_rfl) (by kernel_rfl)
@[simp] theorem ZC0:Yt 44= Tryz.f44:=by kernel_rfl
@[simp] theorem ZAJ:Za 44 2=[1,7,8,9]:=by kernel_rfl
@[simp] theorem Zr6:Za 44 1000002=[4]:=by kernel_rfl
@[simp] theorem tb_44(n:Nat):tab (n+1) 44=some (.pure (run n 44)):=Zu (by kernel_rfl) (by kernel_rfl) (by kernel_rfl)
@[simp] theorem ZDj:Yt 45= Tryz.f45:=by kernel_rfl
@[simp] theorem ZBI:Za 45 2=[1,4,8,9,10]:=by kernel_rfl
@[simp] theorem Zr4:Za 45 1000002=[4]:=by kernel_rfl
@[simp] theorem tb_45(n:Nat):tab (n+1) 45=some (.pure (run n 45)):=Zu (by kernel_rfl) (by kernel_rfl) (by kernel_rfl)
@[simp] theorem ZC7:Yt 46= Tryz.f46:=by kernel_rfl
@[simp] theorem tb_46(n:Nat):tab (n+1) 46=some (.lin [true,false] (Zr n 46)):=WK (k:=false) (by kernel_rfl) (by kernel_rfl) (by kernel_rfl)
@[simp] theorem ZDt:WA 46=false:=by kernel_rfl
@[simp] theorem ZCX:Yt 48= Tryz.f48:=by kernel_rfl
@[simp] theorem tb_48(n:Nat):tab (n+1) 48=some (.pure (run n 48)):=Zu (by kernel_rfl) (by kernel_rfl) (by kernel_rfl)
@[simp] theorem ZCQ:Yt 49= Tryz.f49:=by kernel_rfl
@[simp] theorem ZBF:Za 49 5=[0,5,6]:=by kernel_rfl
@[simp] theorem ZrQ:Za 49 1000005=[0,4,5]:=by kernel_rfl
@[simp] theorem tb_49(n:Nat):tab (n+1) 49=some (.lin [true,false] (Zr n 49)):=WK (k:=true) (by kernel_rfl) (by kernel_rfl) (by kernel_rfl)
@[simp] theorem ZDi:WA 49=true:=by kernel_rfl
@[simp] theorem ZDA:Yt 50= Tryz.f50:=by kernel_rfl
@[simp] theorem ZBS:Za 50 3=[3,4,5,6]:=by kernel_rfl
@[simp] theorem ZrW:Za 50 1000003=[4,5]:=by kernel_rfl
@[simp] theorem tb_50(n:Nat):tab (n+1) 50=some (.pure (run n 50)):=Zu (by kernel_rfl) (by kernel_rfl) (by kernel_rfl)
@[simp] theorem tb_53(n:Nat):tab (n+1) 53=some (.pure (oQt)):=ZL rfl _
@[simp] theorem tb_54(n:Nat):tab (n+1) 54=some (.pure (oN2 fun x y=>Zd (lmb (val x*val y)))):=ZL rfl _
@[simp] theorem tb_55(n:Nat):tab (n+1) 55=some (.pure (oN1 (fun _=>true) fun x=>Zd (lmb (dn x)))):=ZL rfl _
@[simp] theorem ZC4:Yt 58= Tryz.f58:=by kernel_rfl
@[simp] theorem ZBv:Za 58 2=[0,11,12]:=by kernel_rfl
@[simp] theorem ZyZ:Za 58 11=[8,28,29,30,ph 8 0 28 4]:=by kernel_rfl
@[simp] theorem ZrR:Za 58 1000002=[0,4,5]:=by kernel_rfl
@[simp] theorem ZrI:Za 58 1000011=[8]:=by kernel_rfl
@[simp] theorem tb_58(n:Nat):tab (n+1) 58=some (.pure (run n 58)):=Zu (by kernel_rfl) (by kernel_rfl) (by kernel_rfl)
@[simp] theorem ZDE:Yt 59= Tryz.f59:=by kernel_rfl
@[simp] theorem ZBr:Za 59 2=[0,1,5]:=by kernel_rfl
@[simp] theorem ZrA:Za 59 1000002=[1,4]:=by kernel_rfl
@[simp] theorem tb_59(n:Nat):tab (n+1) 59=some (.pure (run n 59)):=Zu (by kernel_rfl) (by kernel_rfl) (by kernel_rfl)
@[simp] theorem ZC2:Yt 60= Tryz.f60:=by kernel_rfl
@[simp] theorem ZBp:Za 60 3=[0,1,6,7]:=by kernel_rfl
@[simp] theorem ZBM:Za 60 7=[1,6,8]:=by kernel_rfl
@[simp] theorem ZrT:Za 60 1000003=[1,6]:=by kernel_rfl
@[simp] theorem Zr5:Za 60 1000007=[4,5,6]:=by kernel_rfl
@[simp] theorem tb_60(n:Nat):tab (n+1) 60=some (.pure (run n 60)):=Zu (by kernel_rfl) (by kernel_rfl) (by kernel_rfl)
@[simp] theorem ZDC:Yt 61= Tryz.f61:=by kernel_rfl
@[simp] theorem tb_61(n:Nat):tab (n+1) 61=some (.pure (run n 61)):=Zu (by kernel_rfl) (by kernel_rfl) (by kernel_rfl)
@[simp] theorem ZCR:Yt 62= Tryz.f62:=by kernel_rfl
@[simp] theorem tb_62(n:Nat):tab (n+1) 62=some (.pure (run n 62)):=Zu (by kernel_rfl) (by kernel_rfl) (by kernel_rfl)
@[simp] theorem ZDn:Yt 63= Tryz.f63:=by kernel_rfl
@[simp] theorem ZBO:Za 63 4=[1,2,6,7,8]:=by kernel_rfl
@[simp] theorem ZyE:Za 63 18=[1,6,7,14,15]:=by kernel_rfl
@[simp] theorem ZyR:Za 63 24=[1,6,7,14,16]:=by kernel_rfl
@[simp] theorem ZrM:Za 63 1000004=[1,4,5,6,7]:=by kernel_rfl
@[simp] theorem ZrB:Za 63 1000018=[1,4,5,6,7,14]:=by kernel_rfl
@[simp] theorem ZrE:Za 63 1000024=[6]:=by kernel_rfl
@[simp] theorem tb_63(n:Nat):tab (n+1) 63=some (.pure (run n 63)):=Zu (by kernel_rfl) (by kernel_rfl) (by kernel_rfl)
@[simp] theorem ZDy:Yt 64= Tryz.f64:=by kernel_rfl
@[simp] theorem ZBT:Za 64 3=[0,1,5,6,7]:=by kernel_rfl
@[simp] theorem ZrV:Za 64 1000003=[5,6]:=by kernel_rfl
@[simp] theorem tb_64(n:Nat):tab (n+1) 64=some (.pure (run n 64)):=Zu (by kernel_rfl) (by kernel_rfl) (by kernel_rfl)
@[simp] theorem ZC8:Yt 65= Tryz.f65:=by kernel_rfl
@[simp] theorem ZAY:Za 65 3=[0,1,2,8,9]:=by kernel_rfl
@[simp] theorem ZBG:Za 65 8=[0,1,2,8,10]:=by kernel_rfl
@[simp] theorem Zy9:Za 65 11=[0,1,2,8,10,11]:=by kernel_rfl
@[simp] theorem ZyF:Za 65 16=[0,1,2,8,10,11,12,13]:=by kernel_rfl
@[simp] theorem Zr0:Za 65 1000003=[0,1,2,8]:=by kernel_rfl
@[simp] theorem Zsa:Za 65 1000008=[6,7,8]:=by kernel_rfl
@[simp] theorem ZrU:Za 65 1000011=[0,1,2,6,7,8,10]:=by kernel_rfl
@[simp] theorem Zru:Za 65 1000016=[0,1,2,8,10,11,12]:=by kernel_rfl
@[simp] theorem tb_65(n:Nat):tab (n+1) 65=some (.pure (run n 65)):=Zu (by kernel_rfl) (by kernel_rfl) (by kernel_rfl)
@[simp] theorem ZDQ:Yt 66= Tryz.f66:=by kernel_rfl
@[simp] theorem ZBo:Za 66 4=[0,1,5,6,7,8,9,10,ph 8 1 0 0,ph 8 2 0 0,ph 9 1 0 0,ph 9 2 0 0]:=by kernel_rfl
@[simp] theorem ZrS:Za 66 1000004=[4,5,6,7,8,9]:=by kernel_rfl
@[simp] theorem tb_66(n:Nat):tab (n+1) 66=some (.pure (run n 66)):=Zu (by kernel_rfl) (by kernel_rfl) (by kernel_rfl)
@[simp] theorem ZDz:Yt 67= Tryz.f67:=by kernel_rfl
@[simp] theorem ZAK:Za 67 2=[1,2,8,9,10]:=by kernel_rfl
@[simp] theorem ZrH:Za 67 1000002=[2,4]:=by kernel_rfl
@[simp] theorem tb_67(n:Nat):tab (n+1) 67=some (.pure (run n 67)):=Zu (by kernel_rfl) (by kernel_rfl) (by kernel_rfl)
@[simp] theorem ZDw:Yt 68= Tryz.f68:=by kernel_rfl
@[simp] theorem tb_68(n:Nat):tab (n+1) 68=some (.pure (run n 68)):=Zu (by kernel_rfl) (by kernel_rfl) (by kernel_rfl)
@[simp] theorem tb_75(n:Nat):tab (n+1) 75=some (.pure (oQt)):=ZL rfl _
@[simp] theorem tb_76(n:Nat):tab (n+1) 76=some (.pure (oN2 fun x y=>Zd (lmb (val x*val y)))):=ZL rfl _
@[simp] theorem tb_77(n:Nat):tab (n+1) 77=some (.pure (o1 fun x=>Zd (unL x.l2))):=ZL rfl _
@[simp] theorem ZDh:Yt 78= Tryz.f78:=by kernel_rfl
@[simp] theorem ZAV:Za 78 3=[5,6,7,8,9,ph 7 0 68 4]:=by kernel_rfl
@[simp] theorem ZrN:Za 78 1000003=[6,7]:=by kernel_rfl
@[simp] theorem tb_78(n:Nat):tab (n+1) 78=some (.pure (run n 78)):=Zu (by kernel_rfl) (by kernel_rfl) (by kernel_rfl)
@[simp] theorem ZDI:Yt 81= Tryz.f81:=by kernel_rfl
@[simp] theorem tb_81(n:Nat):tab (n+1) 81=some (.lin [true,false] (Zr n 81)):=WK (k:=true) (by kernel_rfl) (by kernel_rfl) (by kernel_rfl)
@[simp] theorem ZDB:WA 81=true:=by kernel_rfl
@[simp] theorem ZDL:Yt 83= Tryz.f83:=by kernel_rfl
@[simp] theorem tb_83(n:Nat):tab (n+1) 83=some (.pure (run n 83)):=Zu (by kernel_rfl) (by kernel_rfl) (by kernel_rfl)
@[simp] theorem ZDb:Yt 84= Tryz.f84:=by kernel_rfl
@[simp] theorem ZBa:Za 84 4=[1,3,4,11,12,13]:=by kernel_rfl
@[simp] theorem Zr3:Za 84 1000004=[1,3,4]:=by kernel_rfl
@[simp] theorem tb_84(n:Nat):tab (n+1) 84=some (.pure (run n 84)):=Zu (by kernel_rfl) (by kernel_rfl) (by kernel_rfl)
@[simp] theorem ZCZ:Yt 86= Tryz.f86:=by kernel_rfl
@[simp] theorem ZA1:Za 86 4=[1,3,5,6,7,8,9]:=by kernel_rfl
@[simp] theorem ZrO:Za 86 1000004=[1,3,5,6,7,8]:=by kernel_rfl
@[simp] theorem tb_86(n:Nat):tab (n+1) 86=some (.pure (run n 86)):=Zu (by kernel_rfl) (by kernel_rfl) (by kernel_rfl)
@[simp] theorem tb_87(n:Nat):tab (n+1) 87=some (.pure (oU fun k=>Zd (lmb k))):=ZL rfl _
@[simp] theorem tb_89(n:Nat):tab (n+1) 89=some (.pure (oND fun x y=>.tup [Zd (lmb (val x / val y)),Zd (lmb (val x % val y)),.lit (.int .i64 0)])):=ZL rfl _
@[simp] theorem tb_91(n:Nat):tab (n+1) 91=some (.pure (oN1 (fun _=>true) fun x=>Zd (lmb (val x)))):=ZL rfl _
@[simp] theorem ZDa:Yt 92= Tryz.f92:=by kernel_rfl
@[simp] theorem tb_92(n:Nat):tab (n+1) 92=some (.pure (run n 92)):=Zu (by kernel_rfl) (by kernel_rfl) (by kernel_rfl)
@[simp] theorem ZDM:Yt 93= Tryz.f93:=by kernel_rfl
@[simp] theorem ZBs:Za 93 1=[0,1]:=by kernel_rfl
@[simp] theorem Zrv:Za 93 1000001=[0]:=by kernel_rfl
@[simp] theorem tb_93(n:Nat):tab (n+1) 93=some (.pure (run n 93)):=Zu (by kernel_rfl) (by kernel_rfl) (by kernel_rfl)
@[simp] theorem ZDo:Yt 94= Tryz.f94:=by kernel_rfl
@[simp] theorem ZBA:Za 94 3=[0,3,4]:=by kernel_rfl
@[simp] theorem ZA4:Za 94 7=[0,3,5]:=by kernel_rfl
@[simp] theorem ZrF:Za 94 1000003=[0,3]:=by kernel_rfl
@[simp] theorem ZrC:Za 94 1000007=[2]:=by kernel_rfl
@[simp] theorem tb_94(n:Nat):tab (n+1) 94=some (.lin [true] (Zr n 94)):=WK (k:=false) (by kernel_rfl) (by kernel_rfl) (by kernel_rfl)
@[simp] theorem ZDK:WA 94=false:=by kernel_rfl
@[simp] theorem ZDq:Yt 95= Tryz.f95:=by kernel_rfl
@[simp] theorem ZA9:Za 95 2=[0,3]:=by kernel_rfl
@[simp] theorem Zrw:Za 95 1000002=[3]:=by kernel_rfl
@[simp] theorem tb_95(n:Nat):tab (n+1) 95=some (.pure (run n 95)):=Zu (by kernel_rfl) (by kernel_rfl) (by kernel_rfl)
@[simp] theorem tb_102(n:Nat):tab (n+1) 102=some (.pure (oU fun k=>Zd (lmb k))):=ZL rfl _
@[simp] theorem tb_105(n:Nat):tab (n+1) 105=some (.pure (oN1 (fun _=>true) fun x=>Zd (lmb (val x)))):=ZL rfl _
@[simp] theorem tb_108(n:Nat):tab (n+1) 108=some (.pure (oND fun x y=>.tup [Zd (lmb (val x / val y)),Zd (lmb (val x % val y)),.lit (.int .i64 0)])):=ZL rfl _
@[simp] theorem ZB4:Yt 112= Tryz.f112:=by kernel_rfl
@[simp] theorem tb_112(n:Nat):tab (n+1) 112=some (.lin [true,false,false] (Zr n 112)):=WK (k:=true) (by kernel_rfl) (by kernel_rfl) (by kernel_rfl)
@[simp] theorem ZB0:WA 112=true:=by kernel_rfl
@[simp] theorem tb_113(n:Nat):tab (n+1) 113=some (.pure (oN2 fun x y=>Zd (lmb (val x+val y)))):=ZL rfl _
@[simp] theorem ZCL:Yt 115= Tryz.f115:=by kernel_rfl
@[simp] theorem tb_115(n:Nat):tab (n+1) 115=some (.lin [false,false,true] (Zr n 115)):=WK (k:=false) (by kernel_rfl) (by kernel_rfl) (by kernel_rfl)
@[simp] theorem ZCp:WA 115=false:=by kernel_rfl
@[simp] theorem ZCa:Yt 116= Tryz.f116:=by kernel_rfl
@[simp] theorem tb_116(n:Nat):tab (n+1) 116=some (.lin [true] (Zr n 116)):=WK (k:=false) (by kernel_rfl) (by kernel_rfl) (by kernel_rfl)
@[simp] theorem ZCu:WA 116=false:=by kernel_rfl
@[simp] theorem ZCC:Yt 117= Tryz.f117:=by kernel_rfl
@[simp] theorem tb_117(n:Nat):tab (n+1) 117=some (.lin [true,false] (Zr n 117)):=WK (k:=false) (by kernel_rfl) (by kernel_rfl) (by kernel_rfl)
@[simp] theorem ZCx:WA 117=false:=by kernel_rfl
@[simp] theorem tb_118(n:Nat):tab (n+1) 118=some (.pure (Kl)):=ZL rfl _
@[simp] theorem ZCK:Yt 119= Tryz.f119:=by kernel_rfl
@[simp] theorem tb_119(n:Nat):tab (n+1) 119=some (.pure (run n 119)):=Zu (by kernel_rfl) (by kernel_rfl) (by kernel_rfl)
@[simp] theorem ZCb:Yt 120= Tryz.f120:=by kernel_rfl
@[simp] theorem tb_120(n:Nat):tab (n+1) 120=some (.lin [true] (Zr n 120)):=WK (k:=false) (by kernel_rfl) (by kernel_rfl) (by kernel_rfl)
@[simp] theorem ZCA:WA 120=false:=by kernel_rfl
@[simp] theorem tb_121(n:Nat):tab (n+1) 121=some (.pure (oN1 Zd5 fun x=>.tup [.lit (.int .u64 (val x:Nat)),.lit (.bool true)])):=ZL rfl _
@[simp] theorem tb_131(n:Nat):tab (n+1) 131=some (.pure (oN1 Zd5 fun x=>.tup [.lit (.int .u64 (val x:Nat)),.lit (.bool true)])):=ZL rfl _
@[simp] theorem tb_139(n:Nat):tab (n+1) 139=some (.lin [true] ccG):=ZL rfl _
@[simp] theorem ZCz:Yt 141= Tryz.f141:=by kernel_rfl
@[simp] theorem ZyU:Za 141 5=[0,3,4]:=by kernel_rfl
@[simp] theorem Zng:Za 141 1000005=[4]:=by kernel_rfl
@[simp] theorem tb_141(n:Nat):tab (n+1) 141=some (.pure (run n 141)):=Zu (by kernel_rfl) (by kernel_rfl) (by kernel_rfl)
@[simp] theorem tb_146(n:Nat):tab (n+1) 146=some (.pure (oFU)):=ZL rfl _
@[simp] theorem tb_147(n:Nat):tab (n+1) 147=some (.pure (U2)):=ZL rfl _
@[simp] theorem ZB2:Yt 148= Tryz.f148:=by kernel_rfl
@[simp] theorem ZzC:Za 148 1=[0,2,3]:=by kernel_rfl
@[simp] theorem ZoV:Za 148 1000001=[]:=by kernel_rfl
@[simp] theorem tb_148(n:Nat):tab (n+1) 148=some (.lin [true] (Zr n 148)):=WK (k:=false) (by kernel_rfl) (by kernel_rfl) (by kernel_rfl)
@[simp] theorem ZCt:WA 148=false:=by kernel_rfl
@[simp] theorem tb_149(n:Nat):tab (n+1) 149=some (.pure (ZdO)):=ZL rfl _
def ZqC(q:Rat):List AV:=[.lit (.bool (Ze q).s),Zd (Ze q).l1,Zd (Ze q).l2]
def Zs(t:Int × Rat):List AV:=[.lit (.int .i64 t.1),.lit (.bool (Ze t.2).s),Zd (Ze t.2).l1,Zd (Ze t.2).l2]
abbrev Zf:=List (Int × Rat) × Rat
def Zh(f:Zf):List AV:=[.sl 4 (f.1.map Zs),.lit (.bool (Ze f.2).s),Zd (Ze f.2).l1,Zd (Ze f.2).l2]
theorem Zq{n b:Nat}(h:n≤100000000)(hb:b≤10000):ZG n b=true:=by
 unfold ZG
 have:n*b≤100000000*10000:=Nat.mul_le_mul h hb
 rw [Bool.and_eq_true]
 exact ⟨decide_eq_true (by omega),decide_eq_true (by omega)⟩
theorem ZwR{F:Raw→AV}{q:Rat}(h:H q≤17179869184):o1 F [XH q]=some (F (Ze q)):=by
 have h1:(Ze q).few=true:=by
  have a1:(lmb q.num.natAbs).length≤H q:=Nat.le_max_left _ _
  have a2:(QX q.den).length≤H q:=Nat.le_trans (ZcW _) (Nat.le_max_right _ _)
  unfold Raw.few Ze
  rw [Bool.and_eq_true]
  exact ⟨Nat.ble_eq_true_of_le (by dsimp only;omega),Nat.ble_eq_true_of_le (by dsimp only;omega)⟩
 simp only [o1,ZgM,h1,if_true]
theorem Zvi{F:Raw→Raw→AV}{p q:Rat}(hp:H p≤17179869184)(hq:H q≤17179869184):o2 F [XH p,XH q]=some (F (Ze p) (Ze q)):=by
 have few:∀{q:Rat},H q≤17179869184→(Ze q).few=true:=fun {q} h=>by
  have a1:(lmb q.num.natAbs).length≤H q:=Nat.le_max_left _ _
  have a2:(QX q.den).length≤H q:=Nat.le_trans (ZcW _) (Nat.le_max_right _ _)
  unfold Raw.few Ze
  rw [Bool.and_eq_true]
  exact ⟨Nat.ble_eq_true_of_le (by dsimp only;omega),Nat.ble_eq_true_of_le (by dsimp only;omega)⟩
 simp only [o2,ZgM,few hp,few hq,Bool.and_self,if_true]
theorem Zfn{F:Raw→AV}{q:Rat}(h:H q≤17179869184):o1 F [.agg [.lit (.bool (Ze q).s),Zd (Ze q).l1,Zd (Ze q).l2]]=some (F (Ze q)):=ZwR h
theorem Ze4{F:Raw→Raw→AV}{p q:Rat}(hp:H p≤17179869184)(hq:H q≤17179869184):o2 F [.agg [.lit (.bool (Ze p).s),Zd (Ze p).l1,Zd (Ze p).l2],.agg [.lit (.bool (Ze q).s),Zd (Ze q).l1,Zd (Ze q).l2]]=some (F (Ze p) (Ze q)):=Zvi hp hq
noncomputable def Zsp:List AV→Option AV:=o2 fun x y=>XH (x.q+y.q)
@[simp] theorem ZCn(n:Nat):tab n 38=some (.pure Zsp):=ZL rfl n
@[simp] theorem ZBz(n:Nat):tab n 110=some (.pure Zsp):=ZL rfl n
noncomputable def ZyB:List AV→Option AV:=o2 fun x y=>XH (x.q-y.q)
@[simp] theorem ZCe(n:Nat):tab n 57=some (.pure ZyB):=ZL rfl n
noncomputable def Zta:List AV→Option AV:=o2 fun x y=>XH (x.q*y.q)
@[simp] theorem ZCc(n:Nat):tab n 39=some (.pure Zta):=ZL rfl n
@[simp] theorem ZBE(n:Nat):tab n 111=some (.pure Zta):=ZL rfl n
noncomputable def Zs8:List AV→Option AV:=o1 fun x=>XH (-x.q)
@[simp] theorem ZBX(n:Nat):tab n 24=some (.pure Zs8):=ZL rfl n
@[simp] theorem ZAG(n:Nat):tab n 47=some (.pure Zs8):=ZL rfl n
noncomputable def ZfR:List AV→Option AV:=o1 fun x=>XH x.q
@[simp] theorem ZAv(n:Nat):tab n 56=some (.pure ZfR):=ZL rfl n
@[simp] theorem Zyd(n:Nat):tab n 85=some (.pure ZfR):=ZL rfl n
noncomputable def Zgl:List AV→Option AV:=o1 fun x=>.lit (.int .i64 (sgR x.q))
@[simp] theorem ZBi(n:Nat):tab n 15=some (.pure Zgl):=ZL rfl n
@[simp] theorem ZyP(n:Nat):tab n 35=some (.pure Zgl):=ZL rfl n
noncomputable def ZpU:List AV→Option AV:=o2 fun x y=>.lit (.int .i64 (sgR (x.q-y.q)))
@[simp] theorem ZCw(n:Nat):tab n 25=some (.pure ZpU):=ZL rfl n
@[simp] theorem ZBD(n:Nat):tab n 69=some (.pure ZpU):=ZL rfl n
noncomputable def ZoR:List AV→Option AV:=o2 fun x y=>.lit (.bool (decide (x.s=y.s∧x.l1=y.l1∧x.l2=y.l2)))
@[simp] theorem ZAL(n:Nat):tab n 40=some (.pure ZoR):=ZL rfl n
noncomputable def ZdG:List AV→Option AV:=o1 fun x=>.lit (.bool (decide (QY x.s x.l1 x.l2)))
@[simp] theorem Zzn(n:Nat):tab n 52=some (.pure ZdG):=ZL rfl n
@[simp] theorem Zyj(n:Nat):tab n 97=some (.pure ZdG):=ZL rfl n
noncomputable def fOf:List AV→Option AV:=oZ fun z=>XH (z:Rat)
@[simp] theorem ZDk(n:Nat):tab n 20=some (.pure fOf):=ZL rfl n
@[simp] theorem ZB8(n:Nat):tab n 34=some (.pure fOf):=ZL rfl n
noncomputable def ZuO:List AV→Option AV:=oZZ fun x y=>.tup [XH ((x:Rat) / (y:Rat)),.lit (.int .i64 0)]
@[simp] theorem ZA8(n:Nat):tab n 96=some (.pure ZuO):=ZL rfl n
theorem ZeF{p q:Rat}(hp:H p≤17179869184)(hq:H q≤17179869184):Zsp [.agg [.lit (.bool (Ze p).s),Zd (Ze p).l1,Zd (Ze p).l2],.agg [.lit (.bool (Ze q).s),Zd (Ze q).l1,Zd (Ze q).l2]]=some (.agg [.lit (.bool (Ze (p+q)).s),Zd (Ze (p+q)).l1,Zd (Ze (p+q)).l2]):=by unfold Zsp;rw [Ze4 hp hq,QI,QI];rfl
theorem JK{p q:Rat}(hp:H p≤17179869184)(hq:H q≤17179869184):Zta [.agg [.lit (.bool (Ze p).s),Zd (Ze p).l1,Zd (Ze p).l2],.agg [.lit (.bool (Ze q).s),Zd (Ze q).l1,Zd (Ze q).l2]]=some (.agg [.lit (.bool (Ze (p*q)).s),Zd (Ze (p*q)).l1,Zd (Ze (p*q)).l2]):=by unfold Zta;rw [Ze4 hp hq,QI,QI];rfl
theorem QU{p q:Rat}(hp:H p≤17179869184)(hq:H q≤17179869184):ZpU [.agg [.lit (.bool (Ze p).s),Zd (Ze p).l1,Zd (Ze p).l2],.agg [.lit (.bool (Ze q).s),Zd (Ze q).l1,Zd (Ze q).l2]]=some (.lit (.int .i64 (sgR (p-q)))):=by unfold ZpU;rw [Ze4 hp hq,QI,QI]
theorem VR{p:Rat}(hp:H p≤17179869184):Zs8 [.agg [.lit (.bool (Ze p).s),Zd (Ze p).l1,Zd (Ze p).l2]]=some (.agg [.lit (.bool (Ze (-p)).s),Zd (Ze (-p)).l1,Zd (Ze (-p)).l2]):=by unfold Zs8;rw [Zfn hp,QI];rfl
theorem Zai{p:Rat}(hp:H p≤17179869184):ZfR [.agg [.lit (.bool (Ze p).s),Zd (Ze p).l1,Zd (Ze p).l2]]=some (.agg [.lit (.bool (Ze p).s),Zd (Ze p).l1,Zd (Ze p).l2]):=by unfold ZfR;rw [Zfn hp,QI];rfl
theorem ZN{p:Rat}(hp:H p≤17179869184):Zgl [.agg [.lit (.bool (Ze p).s),Zd (Ze p).l1,Zd (Ze p).l2]]=some (.lit (.int .i64 (sgR p))):=by unfold Zgl;rw [Zfn hp,QI]
theorem ZpH{p q:Rat}(h:Ze p=Ze q):p=q:=by rw [←QI p,h,QI]
theorem ZcJ{p q:Rat}(hp:H p≤17179869184)(hq:H q≤17179869184):ZoR [.agg [.lit (.bool (Ze p).s),Zd (Ze p).l1,Zd (Ze p).l2],.agg [.lit (.bool (Ze q).s),Zd (Ze q).l1,Zd (Ze q).l2]]=some (.lit (.bool (decide (p=q)))):=by
 unfold ZoR
 rw [Ze4 hp hq]
 have:(decide ((Ze p).s=(Ze q).s∧(Ze p).l1=(Ze q).l1∧(Ze p).l2=(Ze q).l2))=decide (p=q):=by
  apply decide_eq_decide.2
  constructor
  ·intro ⟨h1,h2,h3⟩
   apply ZpH
   generalize Ze p=a at*
   generalize Ze q=b at*
   obtain ⟨_,_,_⟩:=a
   obtain ⟨_,_,_⟩:=b
   simp_all
  ·intro h;subst h;exact ⟨rfl,rfl,rfl⟩
 rw [this]
theorem ZBY{z:Int}(h1:-9223372036854775808≤z)(h2:z≤9223372036854775807):fOf [.lit (.int .i64 z)]=some (.agg [.lit (.bool (Ze (z:Rat)).s),Zd (Ze (z:Rat)).l1,Zd (Ze (z:Rat)).l2]):=if_pos ⟨h1,h2⟩
@[simp] theorem z0s:(Ze 0).s=false:=rfl
@[simp] theorem z0n:Zd (Ze 0).l1=.sl 1 []:=by
  have e:(Ze 0).l1=[]:=by decide+kernel
  rw [e];rfl
@[simp] theorem z0d:Zd (Ze 0).l2=.sl 1 []:=by
  have e:(Ze 0).l2=[]:=by decide+kernel
  rw [e];rfl
@[simp] def Zk(q:Rat):AV:=.agg [.lit (.bool (Ze q).s),Zd (Ze q).l1,Zd (Ze q).l2]
@[simp] def Zc(f:Zf):AV:=.agg [.sl 4 (f.1.map Zs),.lit (.bool (Ze f.2).s),Zd (Ze f.2).l1,Zd (Ze f.2).l2]
attribute [simp] ZqC Zs Zh Zb Zq
def ZcE(q:Rat):Rat:=if q.num<0 then -q else q
theorem ZoQ(q:Rat):(-q).num=-q.num:=rfl
theorem Zn7(q:Rat):(-q).den=q.den:=rfl
theorem Zah(q:Rat):Ze (ZcE q)=⟨false,(Ze q).l1,(Ze q).l2⟩:=by
 by_cases h:q.num<0
 ·have e:ZcE q=-q:=if_pos h
  have e2:decide (-q.num<0)=false:=decide_eq_false (by omega)
  rw [e]
  unfold Ze
  rw [ZoQ,Zn7,Int.natAbs_neg,e2]
 ·have e:ZcE q=q:=if_neg h
  have e2:decide (q.num<0)=false:=decide_eq_false h
  rw [e]
  unfold Ze
  rw [e2]
@[simp] theorem ZCr(q:Rat):(Ze (ZcE q)).s=false:=by rw [Zah]
@[simp] theorem ZCG(q:Rat):(Ze (ZcE q)).l1=(Ze q).l1:=by rw [Zah]
@[simp] theorem ZBW(q:Rat):(Ze (ZcE q)).l2=(Ze q).l2:=by rw [Zah]
theorem Zx2(q:Rat):H (ZcE q)=H q:=by
 unfold ZcE
 split
 ·unfold H
  rw [ZoQ,Zn7,Int.natAbs_neg]
 ·rfl
def InI(z:Int):Prop:=-9223372036854775808≤z∧z≤9223372036854775807
theorem Jb{p:Rat}(hp:H p≤17179869184):ZdG [.agg [.lit (.bool (Ze p).s),Zd (Ze p).l1,Zd (Ze p).l2]]=some (.lit (.bool true)):=by
 unfold ZdG
 rw [Zfn hp]
 have e:QY (Ze p).s (Ze p).l1 (Ze p).l2:=by
  have h:sv (Ze p).s (Ze p).l1 (Ze p).l2=p:=QI p
  unfold QY
  rw [h]
  exact ⟨rfl,rfl,rfl⟩
 simp [e]
@[simp] def ZK(z:Int):List AV:=[.lit (.int .i64 z)]
@[simp] def Zw7(z:Int):List AV:=[.lit (.int .u8 z)]
@[simp] def ZA5(z:Int):List AV:=[.lit (.int .u32 z)]
@[simp] def ZcI(b:Bool):List AV:=[.lit (.bool b)]
@[simp] def JE(s:ByteArray):List AV:=[.lit (.string s)]
def Y9(x y:Int):Rat:=(x:Rat) / (y:Rat)
def ofQ(z:Int):Rat:=(z:Rat)
theorem ZbV{x y:Int}(hx:-9223372036854775808≤x∧x≤9223372036854775807)(hy:-9223372036854775808≤y∧y≤9223372036854775807)(h0:y≠0):
  ZuO [.lit (.int .i64 x),.lit (.int .i64 y)]=some (.tup [.agg [.lit (.bool (Ze (Y9 x y)).s),Zd (Ze (Y9 x y)).l1,Zd (Ze (Y9 x y)).l2],.lit (.int .i64 0)]):=if_pos ⟨hx,hy,h0⟩
theorem YD{z:Int}(h1:-9223372036854775808≤z)(h2:z≤9223372036854775807):fOf [.lit (.int .i64 z)]=some (.agg [.lit (.bool (Ze (ofQ z)).s),Zd (Ze (ofQ z)).l1,Zd (Ze (ofQ z)).l2]):=ZBY h1 h2
@[simp] theorem ZAw(l:List Rat):Qq 3 (l.map ZqC)=true:=YR (fun x=>by simp) l
@[simp] theorem Zye(l:List (Int × Rat)):Qq 4 (l.map Zs)=true:=YR (fun x=>by simp) l
@[simp] theorem Zyb(l:List Zf):Qq 4 (l.map Zh)=true:=YR (fun x=>by simp) l
@[simp] theorem Zvd(l:List Int):Qq 1 (l.map ZK)=true:=YR (fun x=>by simp) l
@[simp] theorem ZvJ(l:List Int):Qq 1 (l.map Zw7)=true:=YR (fun x=>by simp) l
@[simp] theorem Zyc(l:List Bool):Qq 1 (l.map ZcI)=true:=YR (fun x=>by simp) l
@[simp] theorem Zy6(l:List ByteArray):Qq 1 (l.map JE)=true:=YR (fun x=>by simp) l
section
variable {α β γ : Type} {P : Program} {O : FuncId → Option Orc} {m N : Nat} {lives : Nat → List Nat} {r : Nat} {C : Code} {M : Nat} {L : List α} {enc : Nat → β → St} {exN exE : Ex}
noncomputable def Zl(P:Program)(O:FuncId→Option Orc)(m N:Nat)(lives:Nat→List Nat)(r:Nat)(C:Code)(e:St):Option (Ex × St):=
 match (match exec P O m N lives big C e with
  | some (.nrm,s')=>Km m (exec P O m N lives big C) (lives r) 4294967295 s'
  | x=>x) with
 | some (ex,s')=>(match gc m (lives (Zo r)) s' with|some s2=>some (ex,s2)|none=>none)
 | none=>none
theorem Zi{C':Code}{s e:St}(hC:C=C')(hg:gc m (lives r) s=some e):ZpI P O m N lives big r C s=Zl P O m N lives r C' e:=by
 subst hC
 unfold ZpI Zl
 have hb:Km m (exec P O m N lives big C) (lives r) big s=Km m (exec P O m N lives big C) (lives r) (4294967295+1) s:=rfl
 rw [hb,Km,hg]
 dsimp only
 cases exec P O m N lives big C e with
 | none=>rfl
 | some p=>
   obtain ⟨ex,s1⟩:=p
   cases ex <;>rfl
theorem Zjw{live outL:List Nat}{step:St→Option (Ex × St)}{Inv:Nat→β→Prop}{Q:Ex→St→Prop}(hstep:∀i b,i<M→Inv i b→(∃b',Zm m step live (enc i b) (enc (i+1) b')∧Inv (i+1) b')∨(∃ex t,ex≠.nrm∧Zj m step outL (enc i b) ex t∧Q ex t))(hend:∀b,Inv M b→∃ex t,ex≠.nrm∧Zj m step outL (enc M b) ex t∧Q ex t):
  ∀(k i n:Nat) (b:β),i+k=M→k≤n→Inv i b→∃ex s' t,(match step (enc i b) with|some (.nrm,s')=>Km m step live n s'|x=>x)=some (ex,s')∧gc m outL s'=some t∧Q ex t
 | 0,i,n,b,hi,hn,hI=>by
   obtain rfl:i=M:=by omega
   obtain ⟨ex,t,h0,⟨s',h1,h2⟩,h3⟩:=hend b hI
   refine ⟨ex,s',t,?_,h2,h3⟩
   rw [h1]
   cases ex <;>first|exact absurd rfl h0|rfl
 | k+1,i,n,b,hi,hn,hI=>by
   rcases hstep i b (by omega) hI with ⟨b',⟨s1,h1,h2⟩,h3⟩|⟨ex,t,h0,⟨s',h1,h2⟩,h3⟩
   ·obtain ⟨ex,s',t,h4,h5,h6⟩:=Zjw hstep hend k (i+1) (n-1) b' (by omega) (by omega) h3
    refine ⟨ex,s',t,?_,h5,h6⟩
    rw [h1]
    have e:n=(n-1)+1:=by omega
    rw [e]
    dsimp only
    rw [Km,h2]
    exact h4
   ·refine ⟨ex,s',t,?_,h2,h3⟩
    rw [h1]
    cases ex <;>first|exact absurd rfl h0|rfl
theorem Qr(Inv:Nat→β→Prop)(Q:Ex→St→Prop)(b:β)(hI:Inv 0 b)(hn:M≤4294967295)(hstep:∀i b,i<M→Inv i b→(∃b',Zm m (exec P O m N lives big C) (lives r) (enc i b) (enc (i+1) b')∧Inv (i+1) b')∨(∃ex t,ex≠.nrm∧Zj m (exec P O m N lives big C) (lives (Zo r)) (enc i b) ex t∧Q ex t))(hend:∀b,Inv M b→∃ex t,ex≠.nrm∧Zj m (exec P O m N lives big C) (lives (Zo r)) (enc M b) ex t∧Q ex t):
  ∃ex t,Zl P O m N lives r C (enc 0 b)=some (ex,t)∧Q ex t:=by
 obtain ⟨ex,s',t,h1,h2,h3⟩:=Zjw hstep hend M 0 4294967295 b (by omega) hn hI
 refine ⟨ex,t,?_,h3⟩
 unfold Zl
 rw [h1]
 simp only [h2]
theorem QV(Inv:Nat→β→Prop){out:β→St}(b:β)(hI:Inv 0 b)(hn:M≤4294967295)(hN:exN≠.nrm)(hstep:∀i b,i<M→Inv i b→∃b',Zm m (exec P O m N lives big C) (lives r) (enc i b) (enc (i+1) b')∧Inv (i+1) b')(hend:∀b,Inv M b→Zj m (exec P O m N lives big C) (lives (Zo r)) (enc M b) exN (out b)):
  ∃b',Zl P O m N lives r C (enc 0 b)=some (exN,out b')∧Inv M b':=by
 obtain ⟨ex,t,h1,b',rfl,rfl,h3⟩:=Qr (m:=m) (C:=C) (P:=P) (O:=O) (N:=N) Inv (fun ex t=>∃b',ex=exN∧t=out b'∧Inv M b') b hI hn (fun i b hi hI=>.inl (hstep i b hi hI)) (fun b hI=>⟨exN,out b,hN,hend b hI,b,rfl,rfl,hI⟩)
 exact ⟨b',h1,h3⟩
theorem Ze7 {f:Nat→β→α→Except γ β} {out:β→St} {outE:γ→St} {Inv:Nat→β→Prop} (b:β) (hI:Inv 0 b) (hn:L.length≤4294967295) (hN:exN≠.nrm) (hE:exE≠.nrm) (hstep:∀i x b,L[i]?=some x→Inv i b→match f i b x with
   | .ok b'=>Zm m (exec P O m N lives big C) (lives r) (enc i b) (enc (i+1) b')∧Inv (i+1) b'
   | .error c=>Zj m (exec P O m N lives big C) (lives (Zo r)) (enc i b) exE (outE c)) (hend:∀b,Inv L.length b→Zj m (exec P O m N lives big C) (lives (Zo r)) (enc L.length b) exN (out b)):
  Zl P O m N lives r C (enc 0 b)=some (Zsw (XO f 0 b L) exN out exE outE)∧∀b',XO f 0 b L=.ok b'→Inv L.length b':=by
 obtain ⟨ex,t,h1,h2,h3⟩:=Qr (m:=m) (C:=C) (P:=P) (O:=O) (N:=N) (lives:=lives) (r:=r) (enc:=enc) (M:=L.length) (fun i b'=>Inv i b'∧XO f i b' (L.drop i)=XO f 0 b L)
  (fun ex t=>(ex,t)=Zsw (XO f 0 b L) exN out exE outE∧∀b',XO f 0 b L=.ok b'→Inv L.length b') b ⟨hI,rfl⟩ hn
  (fun i b' hi ⟨hI,hf⟩=>by
   have hx:L[i]?=some L[i]:=gEt hi
   have hd:L.drop i=L[i]::L.drop (i+1):=List.drop_eq_getElem_cons hi
   have h4:=hstep i _ b' hx hI
   rw [hd,XO] at hf
   split at h4
   ·rename_i b2 he
    rw [he] at hf
    exact .inl ⟨b2,h4.1,h4.2,hf⟩
   ·rename_i c he
    rw [he] at hf
    exact .inr ⟨exE,outE c,hE,h4,by rw [←hf];rfl,fun b' h=>by rw [←hf] at h;cases h⟩)
  (fun b' ⟨hI,hf⟩=>by
   rw [List.drop_length,XO] at hf
   exact ⟨exN,out b',hN,hend b' hI,by rw [←hf];rfl,fun b2 h=>by rw [←hf] at h;cases h;exact hI⟩)
 rw [h1,h2]
 exact ⟨rfl,h3⟩
theorem Wg{f:Nat→β→α→β}{out:β→St}{Inv:Nat→β→Prop}(b:β)(hI:Inv 0 b)(hn:L.length≤4294967295)(hN:exN≠.nrm)(hstep:∀i x b,L[i]?=some x→Inv i b→Zm m (exec P O m N lives big C) (lives r) (enc i b) (enc (i+1) (f i b x))∧Inv (i+1) (f i b x))(hend:∀b,Inv L.length b→Zj m (exec P O m N lives big C) (lives (Zo r)) (enc L.length b) exN (out b)):
  Zl P O m N lives r C (enc 0 b)=some (exN,out (VQ f 0 b L))∧Inv L.length (VQ f 0 b L):=by
 have key:∀(R:List α) (i:Nat) (b:β),XO (γ:=Empty) (fun i b x=>.ok (f i b x)) i b R=.ok (VQ f i b R):=fun R=>by
  induction R with
  | nil=>intro i b;rfl
  | cons x R ih=>intro i b;exact ih (i+1) (f i b x)
 have h:=Ze7 (γ:=Empty) (f:=fun i b x=>.ok (f i b x)) (exE:=.ret) (outE:=fun c=>c.elim) (P:=P) (O:=O) (m:=m) (N:=N) (lives:=lives) (r:=r) (C:=C) b hI hn hN (fun h=>by cases h) hstep hend
 rw [key] at h
 exact ⟨h.1,h.2 _ rfl⟩
end
theorem Xb{P:Program}{O:FuncId→Option Orc}{m N:Nat}{lives:Nat→List Nat}{r:Nat}{C:Code}{M:Nat}{enc:Nat→St}{p:Nat→Bool}{exN exE:Ex}{out outE:St}(hn:M≤4294967295)(hN:exN≠.nrm)(hE:exE≠.nrm)(hstep:∀i,i<M→(∀j,j<i→p j=true)→(p i=true→Zm m (exec P O m N lives big C) (lives r) (enc i) (enc (i+1)))∧(p i=false→Zj m (exec P O m N lives big C) (lives (Zo r)) (enc i) exE outE))(hend:Zj m (exec P O m N lives big C) (lives (Zo r)) (enc M) exN out):
  Zl P O m N lives r C (enc 0)=some (if ∀i,i<M→p i=true then (exN,out) else (exE,outE)):=by
 obtain ⟨ex,t,h1,h2⟩:=Qr (β:=Unit) (m:=m) (C:=C) (P:=P) (O:=O) (N:=N) (lives:=lives) (r:=r) (M:=M) (enc:=fun i _=>enc i) (fun i _=>∀j,j<i→p j=true) (fun ex t=>(ex,t)=if ∀i,i<M→p i=true then (exN,out) else (exE,outE)) () (fun j hj=>absurd hj (by omega)) hn
  (fun i b hi hI=>by
   cases hp:p i with
   | true=>exact .inl ⟨(),(hstep i hi hI).1 hp,fun j hj=>by rcases Nat.lt_succ_iff_lt_or_eq.1 hj with h|rfl;exact hI j h;exact hp⟩
   | false=>
     refine .inr ⟨exE,outE,hE,(hstep i hi hI).2 hp,?_⟩
     rw [if_neg]
     intro h
     rw [h i hi] at hp;cases hp)
  (fun b hI=>⟨exN,out,hN,hend,by rw [if_pos hI]⟩)
 rw [h1,h2]
structure RawB (r:Raw):Prop where
 n:Lim r.l1
 d:Lim r.l2
 bn:r.l1.length≤17179869184
 bd:r.l2.length≤17179869184
theorem RawB.few{r:Raw}(h:RawB r):r.few=true:=by
 unfold Raw.few
 rw [Bool.and_eq_true]
 exact ⟨Nat.ble_eq_true_of_le h.bn,Nat.ble_eq_true_of_le h.bd⟩
theorem ZbZ{q:Rat}(h:H q≤17179869184):RawB (Ze q):=by
 have a1:(lmb q.num.natAbs).length≤H q:=Nat.le_max_left _ _
 have a2:(QX q.den).length≤H q:=Nat.le_trans (ZcW _) (Nat.le_max_right _ _)
 exact ⟨Yq _,Zda _,Nat.le_trans a1 h,Nat.le_trans a2 h⟩
theorem Zul{F:Raw→AV}{r:Raw}(h:RawB r):o1 F [.agg [.lit (.bool r.s),Zd r.l1,Zd r.l2]]=some (F r):=by
 have h1:Zao (.agg [.lit (.bool r.s),Zd r.l1,Zd r.l2])=some r:=ZaF h.n h.d
 simp only [o1,h1,h.few,if_true]
theorem Uo{r:Raw}(h:RawB r):ZdG [.agg [.lit (.bool r.s),Zd r.l1,Zd r.l2]]=some (.lit (.bool (decide (QY r.s r.l1 r.l2)))):=Zul h
theorem VW{r:Raw}(h:RawB r):Zgl [.agg [.lit (.bool r.s),Zd r.l1,Zd r.l2]]=some (.lit (.int .i64 (sgR r.q))):=Zul h
@[simp] def ZtD(r:Raw):List AV:=[.lit (.bool r.s),Zd r.l1,Zd r.l2]
@[simp] def Yj(t:Int × Raw):List AV:=[.lit (.int .i64 t.1),.lit (.bool t.2.s),Zd t.2.l1,Zd t.2.l2]
abbrev Yo:=List (Int × Raw) × Raw
@[simp] def Ys(f:Yo):List AV:=[.sl 4 (f.1.map Yj),.lit (.bool f.2.s),Zd f.2.l1,Zd f.2.l2]
@[simp] theorem Zy1(l:List Raw):Qq 3 (l.map ZtD)=true:=YR (fun x=>by simp) l
@[simp] theorem ZwX(l:List (Int × Raw)):Qq 4 (l.map Yj)=true:=YR (fun x=>by simp) l
@[simp] theorem Zwh(l:List Yo):Qq 4 (l.map Ys)=true:=YR (fun x=>by simp) l
structure ZI where
 c:List Int
 from_:Int
@[simp] def Yi(g:ZI):List AV:=[.sl 1 (g.c.map ZK),.lit (.int .u64 (g.from_))]
@[simp] def ZD3(g:ZI):AV:=.agg [.sl 1 (g.c.map ZK),.lit (.int .u64 (g.from_))]
@[simp] theorem ZyM(l:List ZI):Qq 2 (l.map Yi)=true:=YR (fun x=>by simp) l
structure Zxu where
 Neg:Bool
 Mag:List Nat
@[simp] def ZCs(g:Zxu):List AV:=[.lit (.bool g.Neg),Zd g.Mag]
@[simp] def ZEg(g:Zxu):AV:=.agg [.lit (.bool g.Neg),Zd g.Mag]
@[simp] theorem ZyQ(l:List Zxu):Qq 2 (l.map ZCs)=true:=YR (fun x=>by simp) l
structure ZO where
 Vars:Int
 Rows:List Zf
 Objective:Zf
@[simp] def Zn1(g:ZO):List AV:=[.lit (.int .i64 (g.Vars)),.sl 4 (g.Rows.map Zh),.sl 4 (g.Objective.1.map Zs),.lit (.bool (Ze g.Objective.2).s),Zd (Ze g.Objective.2).l1,Zd (Ze g.Objective.2).l2]
@[simp] def WR(g:ZO):AV:=.agg [.lit (.int .i64 (g.Vars)),.sl 4 (g.Rows.map Zh),.sl 4 (g.Objective.1.map Zs),.lit (.bool (Ze g.Objective.2).s),Zd (Ze g.Objective.2).l1,Zd (Ze g.Objective.2).l2]
@[simp] theorem ZsJ(l:List ZO):Qq 6 (l.map Zn1)=true:=YR (fun x=>by simp) l
structure ZbM where
 Vars:Int
 Rows:List Yo
 Objective:Yo
@[simp] def Zk6(g:ZbM):List AV:=[.lit (.int .i64 (g.Vars)),.sl 4 (g.Rows.map Ys),.sl 4 (g.Objective.1.map Yj),.lit (.bool g.Objective.2.s),Zd g.Objective.2.l1,Zd g.Objective.2.l2]
@[simp] def Zyh(g:ZbM):AV:=.agg [.lit (.int .i64 (g.Vars)),.sl 4 (g.Rows.map Ys),.sl 4 (g.Objective.1.map Yj),.lit (.bool g.Objective.2.s),Zd g.Objective.2.l1,Zd g.Objective.2.l2]
@[simp] theorem Zrt(l:List ZbM):Qq 6 (l.map Zk6)=true:=YR (fun x=>by simp) l
end Go.Proofs.YtdaonnnlgfhlaaaGreatDoor
